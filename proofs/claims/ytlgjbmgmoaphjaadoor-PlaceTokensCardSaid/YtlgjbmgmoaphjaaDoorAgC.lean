/- Code, and what is kept. -/
import Derived.Test.YtlgjbmgmoaphjaaDoorAg0
import Derived.Test.YtlgjbmgmoaphjaaDoorAwT
namespace Go.Proofs.YtlgjbmgmoaphjaaDoor
set_option linter.unusedSimpArgs false
set_option linter.unusedVariables false
open Go
set_option maxRecDepth 100000

noncomputable def c_codec_Quote : Code := (Tryd.f61.body).getD .skip
def nf_codec_Quote : List (Nat × Nf) := []
def fp_codec_Quote : List (Nat × List Nat) := []
def an_codec_Quote : Nat → Ann
  | 0 => ⟨[0], [], [], [], []⟩
  | 1 => ⟨[0], [], [], [], []⟩
  | 2 => ⟨[2], [], [], [], []⟩
  | _ => ⟨[], [], [], [], []⟩
noncomputable abbrev x_codec_Quote : Cx := ⟨Tryd.prog, ⟨id, nf_codec_Quote, fp_codec_Quote⟩, an_codec_Quote⟩
theorem start_codec_Quote {args : List PV} {r : PV} (ha : args.length = 1) (h : awp x_codec_Quote c_codec_Quote (bodyR Tryd.prog [.tmp 2] r []) (initSt args [])) : PC Tryd.prog 61 args r :=
  pc_of_awp (X := x_codec_Quote) mixed Tryd.func61 (c := c_codec_Quote) (by kernel_rfl) (by kernel_rfl) (rs := [.tmp 2]) (by kernel_rfl) (by kernel_rfl) (by rw [ha]; decide) h
noncomputable def c_codec_Head : Code := (Tryd.f29.body).getD .skip
def nf_codec_Head : List (Nat × Nf) := []
def fp_codec_Head : List (Nat × List Nat) := [(32, [5]), (33, [5]), (35, [5]), (36, [5]), (40, [3, 39])]
def an_codec_Head : Nat → Ann
  | 0 => ⟨[1], [1], [], [], [1]⟩
  | 1 => ⟨[1, 8], [1], [], [], [1]⟩
  | 2 => ⟨[1, 12], [1], [], [], [1]⟩
  | 3 => ⟨[2], [], [], [], []⟩
  | 4 => ⟨[2], [], [], [], []⟩
  | 5 => ⟨[1, 21], [1], [], [], [1]⟩
  | 6 => ⟨[2], [], [], [], []⟩
  | 7 => ⟨[1, 3], [1, 3], [.thaw 3 3 1], [], [1, 3]⟩
  | 8 => ⟨[1, 3, 25, 26, 27], [1, 3], [], [], [1, 3]⟩
  | 9 => ⟨[1, 3, 25, 26, 27, 28], [1, 3], [], [], [1, 3]⟩
  | 10 => ⟨[1, 3, 5, 25, 26, 27], [1, 3, 5], [], [], [1, 3, 5]⟩
  | 11 => ⟨[1, 3, 25, 26, 27], [1, 3], [], [], [1, 3]⟩
  | 12 => ⟨[1, 3, 25, 26, 27], [1, 3], [], [], [1, 3]⟩
  | 13 => ⟨[2], [], [], [], []⟩
  | _ => ⟨[], [], [], [], []⟩
noncomputable abbrev x_codec_Head : Cx := ⟨Tryd.prog, ⟨id, nf_codec_Head, fp_codec_Head⟩, an_codec_Head⟩
theorem start_codec_Head {args : List PV} {r : PV} (ha : args.length = 1) (h : awp x_codec_Head c_codec_Head (bodyR Tryd.prog [.tmp 2] r []) (initSt args [])) : PC Tryd.prog 29 args r :=
  pc_of_awp (X := x_codec_Head) mixed Tryd.func29 (c := c_codec_Head) (by kernel_rfl) (by kernel_rfl) (rs := [.tmp 2]) (by kernel_rfl) (by kernel_rfl) (by rw [ha]; decide) h
noncomputable def c_token_Of : Code := (Tryd.f18.body).getD .skip
def nf_token_Of : List (Nat × Nf) := []
def fp_token_Of : List (Nat × List Nat) := []
def an_token_Of : Nat → Ann
  | 0 => ⟨[0], [], [], [], []⟩
  | 1 => ⟨[0, 3], [3], [.thaw 3 3 3], [], [3]⟩
  | 2 => ⟨[3, 8, 9, 10], [3], [], [], [3]⟩
  | 3 => ⟨[3, 8, 9, 10, 11], [3], [], [], [3]⟩
  | 4 => ⟨[3, 5, 8, 9, 10], [3, 5], [], [], [3, 5]⟩
  | 5 => ⟨[3, 5, 8, 9, 10, 16], [3, 5], [], [], [3, 5]⟩
  | 6 => ⟨[3, 5, 8, 9, 10, 19], [3, 5, 19], [], [], [3, 5, 19]⟩
  | 7 => ⟨[3, 5, 8, 9, 10, 19, 20, 21], [3, 5, 19], [], [], [3, 5, 19]⟩
  | 8 => ⟨[3, 5, 7, 8, 9, 10, 19], [3, 5, 19], [], [], [3, 5, 19]⟩
  | 9 => ⟨[3, 5, 8, 9, 10, 19], [3, 5, 19], [], [], [3, 5, 19]⟩
  | 10 => ⟨[3, 5, 8, 9, 10], [3, 5], [], [], [3, 5]⟩
  | 11 => ⟨[3, 8, 9, 10], [3], [], [], [3]⟩
  | 12 => ⟨[3, 8, 9, 10], [3], [], [], [3]⟩
  | 13 => ⟨[3, 8, 9, 10], [3], [], [], [3]⟩
  | 14 => ⟨[2], [3], [], [.ren 3 2], [2, 3]⟩
  | _ => ⟨[], [], [], [], []⟩
noncomputable abbrev x_token_Of : Cx := ⟨Tryd.prog, ⟨id, nf_token_Of, fp_token_Of⟩, an_token_Of⟩
theorem start_token_Of {args : List PV} {r : PV} (ha : args.length = 1) (h : awp x_token_Of c_token_Of (bodyR Tryd.prog [.tmp 2] r []) (initSt args [])) : PC Tryd.prog 18 args r :=
  pc_of_awp (X := x_token_Of) mixed Tryd.func18 (c := c_token_Of) (by kernel_rfl) (by kernel_rfl) (rs := [.tmp 2]) (by kernel_rfl) (by kernel_rfl) (by rw [ha]; decide) h
noncomputable def c_node_isText : Code := (Tryd.f63.body).getD .skip
def nf_node_isText : List (Nat × Nf) := []
def fp_node_isText : List (Nat × List Nat) := []
def an_node_isText : Nat → Ann
  | 0 => ⟨[1], [1], [], [], [1]⟩
  | 1 => ⟨[2], [], [], [], []⟩
  | _ => ⟨[], [], [], [], []⟩
noncomputable abbrev x_node_isText : Cx := ⟨Tryd.prog, ⟨id, nf_node_isText, fp_node_isText⟩, an_node_isText⟩
theorem start_node_isText {args : List PV} {r : PV} (ha : args.length = 1) (h : awp x_node_isText c_node_isText (bodyR Tryd.prog [.tmp 2] r []) (initSt args [])) : PC Tryd.prog 63 args r :=
  pc_of_awp (X := x_node_isText) mixed Tryd.func63 (c := c_node_isText) (by kernel_rfl) (by kernel_rfl) (rs := [.tmp 2]) (by kernel_rfl) (by kernel_rfl) (by rw [ha]; decide) h
noncomputable def c_unicode_utf8_RuneCountInString : Code := (Tryd.f76.body).getD .skip
def nf_unicode_utf8_RuneCountInString : List (Nat × Nf) := []
def fp_unicode_utf8_RuneCountInString : List (Nat × List Nat) := []
def an_unicode_utf8_RuneCountInString : Nat → Ann
  | 0 => ⟨[0, 2], [], [], [], []⟩
  | 1 => ⟨[2, 4], [4], [], [], [4]⟩
  | 2 => ⟨[2, 4, 6], [4], [], [], [4]⟩
  | 3 => ⟨[2, 4], [4], [], [], [4]⟩
  | 4 => ⟨[2], [], [], [], []⟩
  | _ => ⟨[], [], [], [], []⟩
noncomputable abbrev x_unicode_utf8_RuneCountInString : Cx := ⟨Tryd.prog, ⟨id, nf_unicode_utf8_RuneCountInString, fp_unicode_utf8_RuneCountInString⟩, an_unicode_utf8_RuneCountInString⟩
theorem start_unicode_utf8_RuneCountInString {args : List PV} {r : PV} (ha : args.length = 1) (h : awp x_unicode_utf8_RuneCountInString c_unicode_utf8_RuneCountInString (bodyR Tryd.prog [.tmp 2] r []) (initSt args [])) : PC Tryd.prog 76 args r :=
  pc_of_awp (X := x_unicode_utf8_RuneCountInString) mixed Tryd.func76 (c := c_unicode_utf8_RuneCountInString) (by kernel_rfl) (by kernel_rfl) (rs := [.tmp 2]) (by kernel_rfl) (by kernel_rfl) (by rw [ha]; decide) h
noncomputable def c_node_Size : Code := (Tryd.f46.body).getD .skip
def nf_node_Size : List (Nat × Nf) := []
def fp_node_Size : List (Nat × List Nat) := []
def an_node_Size : Nat → Ann
  | 0 => ⟨[1], [1], [], [], [1]⟩
  | 1 => ⟨[1, 4], [1], [], [], [1]⟩
  | 2 => ⟨[2], [], [], [], []⟩
  | 3 => ⟨[2], [], [], [], []⟩
  | _ => ⟨[], [], [], [], []⟩
noncomputable abbrev x_node_Size : Cx := ⟨Tryd.prog, ⟨id, nf_node_Size, fp_node_Size⟩, an_node_Size⟩
theorem start_node_Size {args : List PV} {r : PV} (ha : args.length = 1) (h : awp x_node_Size c_node_Size (bodyR Tryd.prog [.tmp 2] r []) (initSt args [])) : PC Tryd.prog 46 args r :=
  pc_of_awp (X := x_node_Size) mixed Tryd.func46 (c := c_node_Size) (by kernel_rfl) (by kernel_rfl) (rs := [.tmp 2]) (by kernel_rfl) (by kernel_rfl) (by rw [ha]; decide) h
noncomputable def c_node_Total : Code := (Tryd.f21.body).getD .skip
def nf_node_Total : List (Nat × Nf) := []
def fp_node_Total : List (Nat × List Nat) := []
def an_node_Total : Nat → Ann
  | 0 => ⟨[0], [], [], [], []⟩
  | 1 => ⟨[0, 3], [], [], [], []⟩
  | 2 => ⟨[3, 6, 7, 8], [], [], [], []⟩
  | 3 => ⟨[3, 6, 7, 8, 9], [], [], [], []⟩
  | 4 => ⟨[3, 5, 6, 7, 8], [5], [], [], [5]⟩
  | 5 => ⟨[3, 6, 7, 8], [], [], [], []⟩
  | 6 => ⟨[3, 6, 7, 8], [], [], [], []⟩
  | 7 => ⟨[2], [], [], [], []⟩
  | _ => ⟨[], [], [], [], []⟩
noncomputable abbrev x_node_Total : Cx := ⟨Tryd.prog, ⟨id, nf_node_Total, fp_node_Total⟩, an_node_Total⟩
theorem start_node_Total {args : List PV} {r : PV} (ha : args.length = 1) (h : awp x_node_Total c_node_Total (bodyR Tryd.prog [.tmp 2] r []) (initSt args [])) : PC Tryd.prog 21 args r :=
  pc_of_awp (X := x_node_Total) mixed Tryd.func21 (c := c_node_Total) (by kernel_rfl) (by kernel_rfl) (rs := [.tmp 2]) (by kernel_rfl) (by kernel_rfl) (by rw [ha]; decide) h
noncomputable def c_place_Resolve : Code := (Tryd.f27.body).getD .skip
def nf_place_Resolve : List (Nat × Nf) := [(24, [some 1, none, none]), (59, [some 1, none, none]), (65, [some 1, none, none]), (71, [some 1, none, none])]
def fp_place_Resolve : List (Nat × List Nat) := []
def an_place_Resolve : Nat → Ann
  | 0 => ⟨[1, 2, 4], [2, 4], [.nrm 4 [some 1, none, none]], [], [2, 4]⟩
  | 1 => ⟨[1, 2, 4, 23], [2, 4], [], [], [2, 4]⟩
  | 2 => ⟨[4, 5], [4], [], [], [4]⟩
  | 3 => ⟨[1, 2, 4, 6], [2, 4, 6, 342], [.thawV 6 0 342 1], [], [2, 4, 6, 342]⟩
  | 4 => ⟨[1, 2, 4, 6, 26, 27, 28], [2, 4, 6, 342], [], [], [2, 4, 6, 342]⟩
  | 5 => ⟨[1, 2, 4, 6, 26, 27, 28, 29], [2, 4, 6, 342], [], [], [2, 4, 6, 342]⟩
  | 6 => ⟨[1, 2, 4, 6, 7, 8, 26, 27, 28], [2, 4, 6, 8, 342], [], [], [2, 4, 6, 8, 342]⟩
  | 7 => ⟨[1, 2, 4, 6, 7, 8, 9, 26, 27, 28], [2, 4, 6, 8, 342], [], [], [2, 4, 6, 8, 342]⟩
  | 8 => ⟨[1, 2, 4, 6, 8], [2, 4, 6, 8, 342], [], [], [2, 4, 6, 8, 342]⟩
  | 9 => ⟨[1, 2, 4, 6], [2, 4, 6, 342], [], [], [2, 4, 6, 342]⟩
  | 10 => ⟨[1, 2, 4, 6, 7, 8, 9, 26, 27, 28, 44], [2, 4, 6, 8, 342], [], [], [2, 4, 6, 8, 342]⟩
  | 11 => ⟨[1, 2, 4, 6, 26, 27, 28], [2, 4, 6, 342], [], [], [2, 4, 6, 342]⟩
  | 12 => ⟨[1, 2, 4, 6, 7, 8, 51], [2, 4, 6, 8, 342], [], [], [2, 4, 6, 8, 342]⟩
  | 13 => ⟨[4, 6], [4, 6, 342], [], [], [4, 6, 342]⟩
  | 14 => ⟨[4, 5], [4], [], [], [4]⟩
  | 15 => ⟨[1, 2, 4, 6, 7, 8, 60], [2, 4, 6, 8, 342], [], [], [2, 4, 6, 8, 342]⟩
  | 16 => ⟨[4, 6], [4, 6, 342], [], [], [4, 6, 342]⟩
  | 17 => ⟨[4, 5], [4], [], [], [4]⟩
  | 18 => ⟨[1, 2, 4, 6, 26, 27, 28], [2, 4, 6, 342], [], [], [2, 4, 6, 342]⟩
  | 19 => ⟨[4, 6], [4, 6, 342], [], [], [4, 6, 342]⟩
  | 20 => ⟨[4, 5], [4], [], [], [4]⟩
  | _ => ⟨[], [], [], [], []⟩
noncomputable abbrev x_place_Resolve : Cx := ⟨Tryd.prog, ⟨id, nf_place_Resolve, fp_place_Resolve⟩, an_place_Resolve⟩
theorem start_place_Resolve {args : List PV} {r : PV} (ha : args.length = 2) (h : awp x_place_Resolve c_place_Resolve (bodyR Tryd.prog [.cell 4 47, .tmp 5] r []) (initSt args [])) : PC Tryd.prog 27 args r :=
  pc_of_awp (X := x_place_Resolve) mixed Tryd.func27 (c := c_place_Resolve) (by kernel_rfl) (by kernel_rfl) (rs := [.cell 4 47, .tmp 5]) (by kernel_rfl) (by kernel_rfl) (by rw [ha]; decide) h
noncomputable def c_diptychlaw4_shown : Code := (Tryd.f25.body).getD .skip
def nf_diptychlaw4_shown : List (Nat × Nf) := [(4, [none, none, some 1, some 2, some 5]), (6, [none, none, some 1, some 2, some 5]), (8, [none, none, some 1, some 2, some 5])]
def fp_diptychlaw4_shown : List (Nat × List Nat) := []
def an_diptychlaw4_shown : Nat → Ann
  | 0 => ⟨[], [], [], [], []⟩
  | 1 => ⟨[1], [1], [], [], [1]⟩
  | 2 => ⟨[2, 3], [2], [], [], [2]⟩
  | 3 => ⟨[0], [], [], [], []⟩
  | _ => ⟨[], [], [], [], []⟩
noncomputable abbrev x_diptychlaw4_shown : Cx := ⟨Tryd.prog, ⟨id, nf_diptychlaw4_shown, fp_diptychlaw4_shown⟩, an_diptychlaw4_shown⟩
theorem start_diptychlaw4_shown {args : List PV} {r : PV} (ha : args.length = 0) (h : awp x_diptychlaw4_shown c_diptychlaw4_shown (bodyR Tryd.prog [.tmp 0] r []) (initSt args [])) : PC Tryd.prog 25 args r :=
  pc_of_awp (X := x_diptychlaw4_shown) mixed Tryd.func25 (c := c_diptychlaw4_shown) (by kernel_rfl) (by kernel_rfl) (rs := [.tmp 0]) (by kernel_rfl) (by kernel_rfl) (by rw [ha]; decide) h
noncomputable def c_diptychref1_sameNames : Code := (Tryd.f84.body).getD .skip
def nf_diptychref1_sameNames : List (Nat × Nf) := []
def fp_diptychref1_sameNames : List (Nat × List Nat) := []
def an_diptychref1_sameNames : Nat → Ann
  | 0 => ⟨[0, 1], [], [], [], []⟩
  | 1 => ⟨[0, 1, 10], [], [], [], []⟩
  | 2 => ⟨[4], [], [], [], []⟩
  | 3 => ⟨[0, 1, 5], [], [], [], []⟩
  | 4 => ⟨[0, 1, 5, 14], [], [], [], []⟩
  | 5 => ⟨[0, 1, 5], [], [], [], []⟩
  | 6 => ⟨[0, 1, 5, 25], [], [], [], []⟩
  | 7 => ⟨[4], [], [], [], []⟩
  | 8 => ⟨[4], [], [], [], []⟩
  | _ => ⟨[], [], [], [], []⟩
noncomputable abbrev x_diptychref1_sameNames : Cx := ⟨Tryd.prog, ⟨id, nf_diptychref1_sameNames, fp_diptychref1_sameNames⟩, an_diptychref1_sameNames⟩
theorem start_diptychref1_sameNames {args : List PV} {r : PV} (ha : args.length = 2) (h : awp x_diptychref1_sameNames c_diptychref1_sameNames (bodyR Tryd.prog [.tmp 4] r []) (initSt args [])) : PC Tryd.prog 84 args r :=
  pc_of_awp (X := x_diptychref1_sameNames) mixed Tryd.func84 (c := c_diptychref1_sameNames) (by kernel_rfl) (by kernel_rfl) (rs := [.tmp 4]) (by kernel_rfl) (by kernel_rfl) (by rw [ha]; decide) h
noncomputable def c_diptychref1_Join : Code := (Tryd.f55.body).getD .skip
def nf_diptychref1_Join : List (Nat × Nf) := []
def fp_diptychref1_Join : List (Nat × List Nat) := [(65, [3]), (66, [3, 62]), (67, [5]), (69, [62, 68])]
def an_diptychref1_Join : Nat → Ann
  | 0 => ⟨[0], [], [], [], []⟩
  | 1 => ⟨[0, 3], [3], [.thaw 3 3 5], [], [3]⟩
  | 2 => ⟨[0, 3, 4], [3], [], [], [3]⟩
  | 3 => ⟨[0, 3, 4, 10], [3], [], [], [3]⟩
  | 4 => ⟨[0, 3, 4], [3], [], [], [3]⟩
  | 5 => ⟨[0, 3, 4, 5], [3, 5], [], [], [3, 5]⟩
  | 6 => ⟨[0, 3, 4, 5, 6], [3, 5], [], [], [3, 5]⟩
  | 7 => ⟨[0, 3, 4, 5, 6, 27], [3, 5], [], [], [3, 5]⟩
  | 8 => ⟨[0, 3, 4, 5, 6, 52], [3, 5], [], [], [3, 5]⟩
  | 9 => ⟨[0, 3, 4, 5, 6], [3, 5], [], [], [3, 5]⟩
  | 10 => ⟨[0, 3, 4], [62], [], [.ren 62 3], [3, 62]⟩
  | 11 => ⟨[0, 3, 4], [3], [], [], [3]⟩
  | 12 => ⟨[2], [3], [], [.ren 3 2], [2, 3]⟩
  | _ => ⟨[], [], [], [], []⟩
noncomputable abbrev x_diptychref1_Join : Cx := ⟨Tryd.prog, ⟨id, nf_diptychref1_Join, fp_diptychref1_Join⟩, an_diptychref1_Join⟩
theorem start_diptychref1_Join {args : List PV} {r : PV} (ha : args.length = 1) (h : awp x_diptychref1_Join c_diptychref1_Join (bodyR Tryd.prog [.tmp 2] r []) (initSt args [])) : PC Tryd.prog 55 args r :=
  pc_of_awp (X := x_diptychref1_Join) mixed Tryd.func55 (c := c_diptychref1_Join) (by kernel_rfl) (by kernel_rfl) (rs := [.tmp 2]) (by kernel_rfl) (by kernel_rfl) (by rw [ha]; decide) h
noncomputable def c_diptychlaw4_pick : Code := (Tryd.f86.body).getD .skip
def nf_diptychlaw4_pick : List (Nat × Nf) := []
def fp_diptychlaw4_pick : List (Nat × List Nat) := []
def an_diptychlaw4_pick : Nat → Ann
  | 0 => ⟨[0, 1], [], [], [], []⟩
  | 1 => ⟨[0, 1, 6], [], [], [], []⟩
  | 2 => ⟨[0, 1], [], [], [], []⟩
  | 3 => ⟨[4], [], [], [], []⟩
  | _ => ⟨[], [], [], [], []⟩
noncomputable abbrev x_diptychlaw4_pick : Cx := ⟨Tryd.prog, ⟨id, nf_diptychlaw4_pick, fp_diptychlaw4_pick⟩, an_diptychlaw4_pick⟩
theorem start_diptychlaw4_pick {args : List PV} {r : PV} (ha : args.length = 2) (h : awp x_diptychlaw4_pick c_diptychlaw4_pick (bodyR Tryd.prog [.tmp 4] r []) (initSt args [])) : PC Tryd.prog 86 args r :=
  pc_of_awp (X := x_diptychlaw4_pick) mixed Tryd.func86 (c := c_diptychlaw4_pick) (by kernel_rfl) (by kernel_rfl) (rs := [.tmp 4]) (by kernel_rfl) (by kernel_rfl) (by rw [ha]; decide) h
noncomputable def c_diptychlaw4_made : Code := (Tryd.f59.body).getD .skip
def nf_diptychlaw4_made : List (Nat × Nf) := [(32, [none, none, some 1, some 2, some 5]), (61, [none, none, some 1, some 2, some 5])]
def fp_diptychlaw4_made : List (Nat × List Nat) := []
def an_diptychlaw4_made : Nat → Ann
  | 0 => ⟨[0], [], [], [], []⟩
  | 1 => ⟨[0, 3], [10], [], [.ren 10 3], [3, 10]⟩
  | 2 => ⟨[0, 3, 4], [3, 11], [], [.ren 11 4], [3, 4, 11]⟩
  | 3 => ⟨[0, 3, 4, 5], [3, 4, 5], [.thaw 5 5 5], [], [3, 4, 5]⟩
  | 4 => ⟨[0, 3, 4, 5, 6], [3, 4, 5], [], [], [3, 4, 5]⟩
  | 5 => ⟨[0, 3, 4, 5, 6, 19], [3, 4, 5], [], [], [3, 4, 5]⟩
  | 6 => ⟨[0, 3, 4, 5, 6], [3, 4, 5], [], [], [3, 4, 5]⟩
  | 7 => ⟨[0, 3, 4, 5, 6, 7], [3, 4, 5, 7], [], [], [3, 4, 5, 7]⟩
  | 8 => ⟨[0, 3, 4, 5, 6, 7, 8], [3, 4, 5, 7, 8], [], [], [3, 4, 5, 7, 8]⟩
  | 9 => ⟨[0, 3, 4, 5, 6, 7, 8, 36], [3, 4, 5, 7, 8], [], [], [3, 4, 5, 7, 8]⟩
  | 10 => ⟨[0, 3, 4, 5, 6, 7, 8], [3, 4, 5, 7, 8], [.nrm 8 [none, none, none, some 2, none]], [], [3, 4, 5, 7, 8]⟩
  | 11 => ⟨[0, 3, 4, 5, 6, 7, 8, 49], [3, 4, 5, 7, 8], [], [], [3, 4, 5, 7, 8]⟩
  | 12 => ⟨[0, 3, 4, 5, 6, 7, 8, 49, 50], [3, 4, 5, 7, 8], [], [], [3, 4, 5, 7, 8]⟩
  | 13 => ⟨[0, 3, 4, 5, 6, 7, 8, 49, 50], [3, 4, 5, 7, 8], [], [], [3, 4, 5, 7, 8]⟩
  | 14 => ⟨[0, 3, 4, 5, 6, 7, 8, 49, 50], [3, 4, 5, 7, 8], [], [], [3, 4, 5, 7, 8]⟩
  | 15 => ⟨[0, 3, 4, 5, 6, 7, 8, 49, 50], [3, 4, 5, 7, 8], [], [], [3, 4, 5, 7, 8]⟩
  | 16 => ⟨[0, 3, 4, 5, 6, 7, 8], [3, 4, 5, 7, 8], [], [], [3, 4, 5, 7, 8]⟩
  | 17 => ⟨[0, 3, 4, 5, 6, 7, 8, 65], [3, 4, 5, 7, 8], [], [], [3, 4, 5, 7, 8]⟩
  | 18 => ⟨[0, 3, 4, 5, 6, 7, 8], [3, 4, 5, 7, 8], [.nrm 8 [none, none, some 1, none, none]], [], [3, 4, 5, 7, 8]⟩
  | 19 => ⟨[0, 3, 4, 5, 6, 8, 71], [3, 4, 5, 8], [], [], [3, 4, 5, 8]⟩
  | 20 => ⟨[0, 3, 4, 5, 6, 8], [3, 4, 5, 8], [.nrm 8 [none, none, some 1, none, none]], [], [3, 4, 5, 8]⟩
  | 21 => ⟨[0, 3, 4, 5, 6, 7, 8, 49, 74], [3, 4, 5, 7, 8], [], [], [3, 4, 5, 7, 8]⟩
  | 22 => ⟨[0, 3, 4, 5, 6, 7, 8, 49, 74], [3, 4, 5, 7, 8], [], [], [3, 4, 5, 7, 8]⟩
  | 23 => ⟨[0, 3, 4, 5, 6, 7, 8, 74], [3, 4, 5, 7, 8], [], [], [3, 4, 5, 7, 8]⟩
  | 24 => ⟨[0, 3, 4, 5, 6, 8, 9], [3, 4, 5, 8], [], [], [3, 4, 5, 8]⟩
  | 25 => ⟨[0, 3, 4, 5, 6, 8, 9], [3, 4, 5, 8], [], [], [3, 4, 5, 8]⟩
  | 26 => ⟨[0, 3, 4, 5, 6, 8], [3, 4, 8, 94], [], [.ren 94 5], [3, 4, 5, 8, 94]⟩
  | 27 => ⟨[0, 3, 4, 5, 6], [3, 4, 5], [], [], [3, 4, 5]⟩
  | 28 => ⟨[2], [], [], [], []⟩
  | _ => ⟨[], [], [], [], []⟩
noncomputable abbrev x_diptychlaw4_made : Cx := ⟨Tryd.prog, ⟨id, nf_diptychlaw4_made, fp_diptychlaw4_made⟩, an_diptychlaw4_made⟩
theorem start_diptychlaw4_made {args : List PV} {r : PV} (ha : args.length = 1) (h : awp x_diptychlaw4_made c_diptychlaw4_made (bodyR Tryd.prog [.tmp 2] r []) (initSt args [])) : PC Tryd.prog 59 args r :=
  pc_of_awp (X := x_diptychlaw4_made) mixed Tryd.func59 (c := c_diptychlaw4_made) (by kernel_rfl) (by kernel_rfl) (rs := [.tmp 2]) (by kernel_rfl) (by kernel_rfl) (by rw [ha]; decide) h
noncomputable def c_diptychlaw4_doc : Code := (Tryd.f26.body).getD .skip
def nf_diptychlaw4_doc : List (Nat × Nf) := [(5, [none, none, some 1, some 2, none])]
def fp_diptychlaw4_doc : List (Nat × List Nat) := []
def an_diptychlaw4_doc : Nat → Ann
  | 0 => ⟨[0, 2], [2], [.nrm 2 [none, none, some 1, some 2, some 5]], [], [2]⟩
  | 1 => ⟨[2], [2], [], [], [2]⟩
  | _ => ⟨[], [], [], [], []⟩
noncomputable abbrev x_diptychlaw4_doc : Cx := ⟨Tryd.prog, ⟨id, nf_diptychlaw4_doc, fp_diptychlaw4_doc⟩, an_diptychlaw4_doc⟩
theorem start_diptychlaw4_doc {args : List PV} {r : PV} (ha : args.length = 1) (h : awp x_diptychlaw4_doc c_diptychlaw4_doc (bodyR Tryd.prog [.cell 2 27] r []) (initSt args [])) : PC Tryd.prog 26 args r :=
  pc_of_awp (X := x_diptychlaw4_doc) mixed Tryd.func26 (c := c_diptychlaw4_doc) (by kernel_rfl) (by kernel_rfl) (rs := [.cell 2 27]) (by kernel_rfl) (by kernel_rfl) (by rw [ha]; decide) h
noncomputable def c_place_Inner : Code := (Tryd.f28.body).getD .skip
def nf_place_Inner : List (Nat × Nf) := [(28, [none, none, some 1, some 2, some 5]), (38, [none, none, some 1, some 2, some 5])]
def fp_place_Inner : List (Nat × List Nat) := []
def an_place_Inner : Nat → Ann
  | 0 => ⟨[1, 2, 4], [2, 4], [.nrm 4 [none, none, some 1, some 2, some 5]], [], [2, 4]⟩
  | 1 => ⟨[2, 4, 8, 9, 10], [2, 4], [], [], [2, 4]⟩
  | 2 => ⟨[2, 4, 8, 9, 10, 11], [2, 4], [], [], [2, 4]⟩
  | 3 => ⟨[2, 4, 7, 8, 9, 10], [2, 4], [], [], [2, 4]⟩
  | 4 => ⟨[2, 4, 7, 8, 9, 10, 27], [2, 4], [], [], [2, 4]⟩
  | 5 => ⟨[4, 5], [4], [], [], [4]⟩
  | 6 => ⟨[2, 4, 8, 9, 10], [2, 4], [], [], [2, 4]⟩
  | 7 => ⟨[2, 4, 8, 9, 10], [2, 4], [], [], [2, 4]⟩
  | 8 => ⟨[2, 4, 37], [2, 4], [], [], [2, 4]⟩
  | 9 => ⟨[4, 5], [4], [], [], [4]⟩
  | 10 => ⟨[4, 5], [4], [], [], [4]⟩
  | _ => ⟨[], [], [], [], []⟩
noncomputable abbrev x_place_Inner : Cx := ⟨Tryd.prog, ⟨id, nf_place_Inner, fp_place_Inner⟩, an_place_Inner⟩
theorem start_place_Inner {args : List PV} {r : PV} (ha : args.length = 2) (h : awp x_place_Inner c_place_Inner (bodyR Tryd.prog [.cell 4 27, .tmp 5] r []) (initSt args [])) : PC Tryd.prog 28 args r :=
  pc_of_awp (X := x_place_Inner) mixed Tryd.func28 (c := c_place_Inner) (by kernel_rfl) (by kernel_rfl) (rs := [.cell 4 27, .tmp 5]) (by kernel_rfl) (by kernel_rfl) (by rw [ha]; decide) h
noncomputable def c_diptychlaw4_PlaceTokens : Code := (Tryd.f6.body).getD .skip
def nf_diptychlaw4_PlaceTokens : List (Nat × Nf) := []
def fp_diptychlaw4_PlaceTokens : List (Nat × List Nat) := []
def an_diptychlaw4_PlaceTokens : Nat → Ann
  | 0 => ⟨[0], [], [], [], []⟩
  | 1 => ⟨[0, 3], [], [], [], []⟩
  | 2 => ⟨[0, 15], [], [], [], []⟩
  | 3 => ⟨[2], [], [], [], []⟩
  | 4 => ⟨[4], [4], [], [], [4]⟩
  | 5 => ⟨[4, 5], [4], [], [], [4]⟩
  | 6 => ⟨[4, 5, 6], [4], [], [], [4]⟩
  | 7 => ⟨[4, 5, 6, 24], [4], [], [], [4]⟩
  | 8 => ⟨[4, 5, 6], [4], [], [], [4]⟩
  | 9 => ⟨[4, 5, 6, 7, 8], [4, 7], [], [], [4, 7]⟩
  | 10 => ⟨[4, 5, 6, 7, 8, 9, 10], [4, 7, 9], [], [], [4, 7, 9]⟩
  | 11 => ⟨[4, 5, 6, 7, 9, 45], [4, 7, 9], [], [], [4, 7, 9]⟩
  | 12 => ⟨[2], [], [], [], []⟩
  | 13 => ⟨[4, 5, 6, 7, 9, 51], [4, 7, 9], [], [], [4, 7, 9]⟩
  | 14 => ⟨[4, 5, 6, 57], [4], [], [], [4]⟩
  | 15 => ⟨[2], [], [], [], []⟩
  | 16 => ⟨[4, 5, 6, 7, 11], [4, 7, 11], [], [], [4, 7, 11]⟩
  | 17 => ⟨[4, 5, 6, 7, 11, 66], [4, 7, 11], [], [], [4, 7, 11]⟩
  | 18 => ⟨[4, 5, 6, 7, 12], [4, 7], [], [], [4, 7]⟩
  | 19 => ⟨[4, 5, 6, 98], [4], [], [], [4]⟩
  | 20 => ⟨[2], [], [], [], []⟩
  | 21 => ⟨[4, 5, 6, 119], [4], [], [], [4]⟩
  | 22 => ⟨[2], [], [], [], []⟩
  | 23 => ⟨[2], [], [], [], []⟩
  | _ => ⟨[], [], [], [], []⟩
noncomputable abbrev x_diptychlaw4_PlaceTokens : Cx := ⟨Tryd.prog, ⟨id, nf_diptychlaw4_PlaceTokens, fp_diptychlaw4_PlaceTokens⟩, an_diptychlaw4_PlaceTokens⟩
theorem start_diptychlaw4_PlaceTokens {args : List PV} {r : PV} (ha : args.length = 1) (h : awp x_diptychlaw4_PlaceTokens c_diptychlaw4_PlaceTokens (bodyR Tryd.prog [.tmp 2] r []) (initSt args [])) : PC Tryd.prog 6 args r :=
  pc_of_awp (X := x_diptychlaw4_PlaceTokens) mixed Tryd.func6 (c := c_diptychlaw4_PlaceTokens) (by kernel_rfl) (by kernel_rfl) (rs := [.tmp 2]) (by kernel_rfl) (by kernel_rfl) (by rw [ha]; decide) h

end Go.Proofs.YtlgjbmgmoaphjaaDoor
