/- Code, and what is kept. -/
import Derived.Test.YtlgjbmgmoaphjaaDoorAgT
import Derived.Test.YtlgjbmgmoaphjaaDoorAwT
namespace Go.Proofs.YtlgjbmgmoaphjaaDoor
set_option linter.unusedSimpArgs false
set_option linter.unusedVariables false
open Go
set_option maxRecDepth 100000

noncomputable def c_codec_Quote : Code := (Tryd.f61.body).getD .skip
def nf_codec_Quote : List (Nat × Nf) := []
def fp_codec_Quote : List (Nat × List Nat) := []
def an_codec_Quote : Nat → Ann
  | 0 => ⟨[0], [], [], [], []⟩
  | 1 => ⟨[0], [], [], [], []⟩
  | 2 => ⟨[2], [], [], [], []⟩
  | _ => ⟨[], [], [], [], []⟩
noncomputable abbrev x_codec_Quote : Cx := ⟨Tryd.prog, ⟨id, nf_codec_Quote, fp_codec_Quote⟩, an_codec_Quote⟩
theorem start_codec_Quote {args : List PV} {r : PV} (ha : args.length = 1) (h : awp x_codec_Quote c_codec_Quote (bodyR Tryd.prog [.tmp 2] r []) (initSt args [])) : PC Tryd.prog 61 args r :=
  pc_of_awp (X := x_codec_Quote) mixed Tryd.func61 (c := c_codec_Quote) (by kernel_rfl) (by kernel_rfl) (rs := [.tmp 2]) (by kernel_rfl) (by kernel_rfl) (by rw [ha]; decide) h
noncomputable def c_codec_Head : Code := (Tryd.f29.body).getD .skip
def nf_codec_Head : List (Nat × Nf) := []
def fp_codec_Head : List (Nat × List Nat) := [(32, [5]), (33, [5]), (35, [5]), (36, [5]), (40, [3, 39])]
def an_codec_Head : Nat → Ann
  | 0 => ⟨[1], [1], [], [], [1]⟩
  | 1 => ⟨[1, 8], [1], [], [], [1]⟩
  | 2 => ⟨[1, 12], [1], [], [], [1]⟩
  | 3 => ⟨[2], [], [], [], []⟩
  | 4 => ⟨[2], [], [], [], []⟩
  | 5 => ⟨[1, 21], [1], [], [], [1]⟩
  | 6 => ⟨[2], [], [], [], []⟩
  | 7 => ⟨[1, 3], [1, 3], [.thaw 3 3 1], [], [1, 3]⟩
  | 8 => ⟨[1, 3, 25, 26, 27], [1, 3], [], [], [1, 3]⟩
  | 9 => ⟨[1, 3, 25, 26, 27, 28], [1, 3], [], [], [1, 3]⟩
  | 10 => ⟨[1, 3, 5, 25, 26, 27], [1, 3, 5], [], [], [1, 3, 5]⟩
  | 11 => ⟨[1, 3, 25, 26, 27], [1, 3], [], [], [1, 3]⟩
  | 12 => ⟨[1, 3, 25, 26, 27], [1, 3], [], [], [1, 3]⟩
  | 13 => ⟨[2], [], [], [], []⟩
  | _ => ⟨[], [], [], [], []⟩
noncomputable abbrev x_codec_Head : Cx := ⟨Tryd.prog, ⟨id, nf_codec_Head, fp_codec_Head⟩, an_codec_Head⟩
theorem start_codec_Head {args : List PV} {r : PV} (ha : args.length = 1) (h : awp x_codec_Head c_codec_Head (bodyR Tryd.prog [.tmp 2] r []) (initSt args [])) : PC Tryd.prog 29 args r :=
  pc_of_awp (X := x_codec_Head) mixed Tryd.func29 (c := c_codec_Head) (by kernel_rfl) (by kernel_rfl) (rs := [.tmp 2]) (by kernel_rfl) (by kernel_rfl) (by rw [ha]; decide) h
noncomputable def c_token_Of : Code := (Tryd.f18.body).getD .skip
def nf_token_Of : List (Nat × Nf) := []
def fp_token_Of : List (Nat × List Nat) := []
def an_token_Of : Nat → Ann
  | 0 => ⟨[0], [], [], [], []⟩
  | 1 => ⟨[0, 3], [3], [.thaw 3 3 3], [], [3]⟩
  | 2 => ⟨[3, 8, 9, 10], [3], [], [], [3]⟩
  | 3 => ⟨[3, 8, 9, 10, 11], [3], [], [], [3]⟩
  | 4 => ⟨[3, 5, 8, 9, 10], [3, 5], [], [], [3, 5]⟩
  | 5 => ⟨[3, 5, 8, 9, 10, 16], [3, 5], [], [], [3, 5]⟩
  | 6 => ⟨[3, 5, 8, 9, 10, 19], [3, 5, 19], [], [], [3, 5, 19]⟩
  | 7 => ⟨[3, 5, 8, 9, 10, 19, 20, 21], [3, 5, 19], [], [], [3, 5, 19]⟩
  | 8 => ⟨[3, 5, 7, 8, 9, 10, 19], [3, 5, 19], [], [], [3, 5, 19]⟩
  | 9 => ⟨[3, 5, 8, 9, 10, 19], [3, 5, 19], [], [], [3, 5, 19]⟩
  | 10 => ⟨[3, 5, 8, 9, 10], [3, 5], [], [], [3, 5]⟩
  | 11 => ⟨[3, 8, 9, 10], [3], [], [], [3]⟩
  | 12 => ⟨[3, 8, 9, 10], [3], [], [], [3]⟩
  | 13 => ⟨[3, 8, 9, 10], [3], [], [], [3]⟩
  | 14 => ⟨[2], [3], [], [.ren 3 2], [2, 3]⟩
  | _ => ⟨[], [], [], [], []⟩
noncomputable abbrev x_token_Of : Cx := ⟨Tryd.prog, ⟨id, nf_token_Of, fp_token_Of⟩, an_token_Of⟩
theorem start_token_Of {args : List PV} {r : PV} (ha : args.length = 1) (h : awp x_token_Of c_token_Of (bodyR Tryd.prog [.tmp 2] r []) (initSt args [])) : PC Tryd.prog 18 args r :=
  pc_of_awp (X := x_token_Of) mixed Tryd.func18 (c := c_token_Of) (by kernel_rfl) (by kernel_rfl) (rs := [.tmp 2]) (by kernel_rfl) (by kernel_rfl) (by rw [ha]; decide) h
noncomputable def c_diptychlaw3_shown : Code := (Tryd.f15.body).getD .skip
def nf_diptychlaw3_shown : List (Nat × Nf) := [(2, [none, none, some 1, some 2, some 5]), (4, [none, none, some 1, some 2, some 5])]
def fp_diptychlaw3_shown : List (Nat × List Nat) := []
def an_diptychlaw3_shown : Nat → Ann
  | 0 => ⟨[], [], [], [], []⟩
  | 1 => ⟨[1], [], [], [], []⟩
  | 2 => ⟨[0], [], [], [], []⟩
  | _ => ⟨[], [], [], [], []⟩
noncomputable abbrev x_diptychlaw3_shown : Cx := ⟨Tryd.prog, ⟨id, nf_diptychlaw3_shown, fp_diptychlaw3_shown⟩, an_diptychlaw3_shown⟩
theorem start_diptychlaw3_shown {args : List PV} {r : PV} (ha : args.length = 0) (h : awp x_diptychlaw3_shown c_diptychlaw3_shown (bodyR Tryd.prog [.tmp 0] r []) (initSt args [])) : PC Tryd.prog 15 args r :=
  pc_of_awp (X := x_diptychlaw3_shown) mixed Tryd.func15 (c := c_diptychlaw3_shown) (by kernel_rfl) (by kernel_rfl) (rs := [.tmp 0]) (by kernel_rfl) (by kernel_rfl) (by rw [ha]; decide) h
noncomputable def c_diptychlaw3_short : Code := (Tryd.f16.body).getD .skip
def nf_diptychlaw3_short : List (Nat × Nf) := []
def fp_diptychlaw3_short : List (Nat × List Nat) := []
def an_diptychlaw3_short : Nat → Ann
  | 0 => ⟨[1], [1], [], [], [1]⟩
  | 1 => ⟨[1, 3], [1], [], [], [1]⟩
  | 2 => ⟨[1, 3, 4], [1], [], [], [1]⟩
  | 3 => ⟨[1, 3, 4, 22], [1], [], [], [1]⟩
  | 4 => ⟨[1, 3, 4], [1], [], [], [1]⟩
  | 5 => ⟨[1, 3, 4], [1], [], [], [1]⟩
  | 6 => ⟨[1, 3, 5], [1], [], [], [1]⟩
  | 7 => ⟨[1, 3, 5, 42], [1], [], [], [1]⟩
  | 8 => ⟨[1, 3, 5], [1], [], [], [1]⟩
  | 9 => ⟨[1, 3, 5], [1], [], [], [1]⟩
  | 10 => ⟨[2], [], [], [], []⟩
  | _ => ⟨[], [], [], [], []⟩
noncomputable abbrev x_diptychlaw3_short : Cx := ⟨Tryd.prog, ⟨id, nf_diptychlaw3_short, fp_diptychlaw3_short⟩, an_diptychlaw3_short⟩
theorem start_diptychlaw3_short {args : List PV} {r : PV} (ha : args.length = 1) (h : awp x_diptychlaw3_short c_diptychlaw3_short (bodyR Tryd.prog [.tmp 2] r []) (initSt args [])) : PC Tryd.prog 16 args r :=
  pc_of_awp (X := x_diptychlaw3_short) mixed Tryd.func16 (c := c_diptychlaw3_short) (by kernel_rfl) (by kernel_rfl) (rs := [.tmp 2]) (by kernel_rfl) (by kernel_rfl) (by rw [ha]; decide) h
noncomputable def c_diptychlaw3_pick : Code := (Tryd.f54.body).getD .skip
def nf_diptychlaw3_pick : List (Nat × Nf) := []
def fp_diptychlaw3_pick : List (Nat × List Nat) := []
def an_diptychlaw3_pick : Nat → Ann
  | 0 => ⟨[0, 1], [], [], [], []⟩
  | 1 => ⟨[0, 1, 6], [], [], [], []⟩
  | 2 => ⟨[0, 1], [], [], [], []⟩
  | 3 => ⟨[4], [], [], [], []⟩
  | _ => ⟨[], [], [], [], []⟩
noncomputable abbrev x_diptychlaw3_pick : Cx := ⟨Tryd.prog, ⟨id, nf_diptychlaw3_pick, fp_diptychlaw3_pick⟩, an_diptychlaw3_pick⟩
theorem start_diptychlaw3_pick {args : List PV} {r : PV} (ha : args.length = 2) (h : awp x_diptychlaw3_pick c_diptychlaw3_pick (bodyR Tryd.prog [.tmp 4] r []) (initSt args [])) : PC Tryd.prog 54 args r :=
  pc_of_awp (X := x_diptychlaw3_pick) mixed Tryd.func54 (c := c_diptychlaw3_pick) (by kernel_rfl) (by kernel_rfl) (rs := [.tmp 4]) (by kernel_rfl) (by kernel_rfl) (by rw [ha]; decide) h
noncomputable def c_diptychref1_sameNames : Code := (Tryd.f84.body).getD .skip
def nf_diptychref1_sameNames : List (Nat × Nf) := []
def fp_diptychref1_sameNames : List (Nat × List Nat) := []
def an_diptychref1_sameNames : Nat → Ann
  | 0 => ⟨[0, 1], [], [], [], []⟩
  | 1 => ⟨[0, 1, 10], [], [], [], []⟩
  | 2 => ⟨[4], [], [], [], []⟩
  | 3 => ⟨[0, 1, 5], [], [], [], []⟩
  | 4 => ⟨[0, 1, 5, 14], [], [], [], []⟩
  | 5 => ⟨[0, 1, 5], [], [], [], []⟩
  | 6 => ⟨[0, 1, 5, 25], [], [], [], []⟩
  | 7 => ⟨[4], [], [], [], []⟩
  | 8 => ⟨[4], [], [], [], []⟩
  | _ => ⟨[], [], [], [], []⟩
noncomputable abbrev x_diptychref1_sameNames : Cx := ⟨Tryd.prog, ⟨id, nf_diptychref1_sameNames, fp_diptychref1_sameNames⟩, an_diptychref1_sameNames⟩
theorem start_diptychref1_sameNames {args : List PV} {r : PV} (ha : args.length = 2) (h : awp x_diptychref1_sameNames c_diptychref1_sameNames (bodyR Tryd.prog [.tmp 4] r []) (initSt args [])) : PC Tryd.prog 84 args r :=
  pc_of_awp (X := x_diptychref1_sameNames) mixed Tryd.func84 (c := c_diptychref1_sameNames) (by kernel_rfl) (by kernel_rfl) (rs := [.tmp 4]) (by kernel_rfl) (by kernel_rfl) (by rw [ha]; decide) h
noncomputable def c_diptychref1_Join : Code := (Tryd.f55.body).getD .skip
def nf_diptychref1_Join : List (Nat × Nf) := []
def fp_diptychref1_Join : List (Nat × List Nat) := [(65, [3]), (66, [3, 62]), (67, [5]), (69, [62, 68])]
def an_diptychref1_Join : Nat → Ann
  | 0 => ⟨[0], [], [], [], []⟩
  | 1 => ⟨[0, 3], [3], [.thaw 3 3 5], [], [3]⟩
  | 2 => ⟨[0, 3, 4], [3], [], [], [3]⟩
  | 3 => ⟨[0, 3, 4, 10], [3], [], [], [3]⟩
  | 4 => ⟨[0, 3, 4], [3], [], [], [3]⟩
  | 5 => ⟨[0, 3, 4, 5], [3, 5], [], [], [3, 5]⟩
  | 6 => ⟨[0, 3, 4, 5, 6], [3, 5], [], [], [3, 5]⟩
  | 7 => ⟨[0, 3, 4, 5, 6, 27], [3, 5], [], [], [3, 5]⟩
  | 8 => ⟨[0, 3, 4, 5, 6, 52], [3, 5], [], [], [3, 5]⟩
  | 9 => ⟨[0, 3, 4, 5, 6], [3, 5], [], [], [3, 5]⟩
  | 10 => ⟨[0, 3, 4], [62], [], [.ren 62 3], [3, 62]⟩
  | 11 => ⟨[0, 3, 4], [3], [], [], [3]⟩
  | 12 => ⟨[2], [3], [], [.ren 3 2], [2, 3]⟩
  | _ => ⟨[], [], [], [], []⟩
noncomputable abbrev x_diptychref1_Join : Cx := ⟨Tryd.prog, ⟨id, nf_diptychref1_Join, fp_diptychref1_Join⟩, an_diptychref1_Join⟩
theorem start_diptychref1_Join {args : List PV} {r : PV} (ha : args.length = 1) (h : awp x_diptychref1_Join c_diptychref1_Join (bodyR Tryd.prog [.tmp 2] r []) (initSt args [])) : PC Tryd.prog 55 args r :=
  pc_of_awp (X := x_diptychref1_Join) mixed Tryd.func55 (c := c_diptychref1_Join) (by kernel_rfl) (by kernel_rfl) (rs := [.tmp 2]) (by kernel_rfl) (by kernel_rfl) (by rw [ha]; decide) h
noncomputable def c_diptychlaw3_made : Code := (Tryd.f17.body).getD .skip
def nf_diptychlaw3_made : List (Nat × Nf) := [(32, [none, none, some 1, some 2, some 5]), (61, [none, none, some 1, some 2, some 5])]
def fp_diptychlaw3_made : List (Nat × List Nat) := []
def an_diptychlaw3_made : Nat → Ann
  | 0 => ⟨[0], [], [], [], []⟩
  | 1 => ⟨[0, 3], [10], [], [.ren 10 3], [3, 10]⟩
  | 2 => ⟨[0, 3, 4], [3, 11], [], [.ren 11 4], [3, 4, 11]⟩
  | 3 => ⟨[0, 3, 4, 5], [3, 4, 5], [.thaw 5 5 5], [], [3, 4, 5]⟩
  | 4 => ⟨[0, 3, 4, 5, 6], [3, 4, 5], [], [], [3, 4, 5]⟩
  | 5 => ⟨[0, 3, 4, 5, 6, 19], [3, 4, 5], [], [], [3, 4, 5]⟩
  | 6 => ⟨[0, 3, 4, 5, 6], [3, 4, 5], [], [], [3, 4, 5]⟩
  | 7 => ⟨[0, 3, 4, 5, 6, 7], [3, 4, 5, 7], [], [], [3, 4, 5, 7]⟩
  | 8 => ⟨[0, 3, 4, 5, 6, 7, 8], [3, 4, 5, 7, 8], [], [], [3, 4, 5, 7, 8]⟩
  | 9 => ⟨[0, 3, 4, 5, 6, 7, 8, 36], [3, 4, 5, 7, 8], [], [], [3, 4, 5, 7, 8]⟩
  | 10 => ⟨[0, 3, 4, 5, 6, 7, 8], [3, 4, 5, 7, 8], [.nrm 8 [none, none, none, some 2, none]], [], [3, 4, 5, 7, 8]⟩
  | 11 => ⟨[0, 3, 4, 5, 6, 7, 8, 49], [3, 4, 5, 7, 8], [], [], [3, 4, 5, 7, 8]⟩
  | 12 => ⟨[0, 3, 4, 5, 6, 7, 8, 49, 50], [3, 4, 5, 7, 8], [], [], [3, 4, 5, 7, 8]⟩
  | 13 => ⟨[0, 3, 4, 5, 6, 7, 8, 49, 50], [3, 4, 5, 7, 8], [], [], [3, 4, 5, 7, 8]⟩
  | 14 => ⟨[0, 3, 4, 5, 6, 7, 8, 49, 50], [3, 4, 5, 7, 8], [], [], [3, 4, 5, 7, 8]⟩
  | 15 => ⟨[0, 3, 4, 5, 6, 7, 8, 49, 50], [3, 4, 5, 7, 8], [], [], [3, 4, 5, 7, 8]⟩
  | 16 => ⟨[0, 3, 4, 5, 6, 7, 8], [3, 4, 5, 7, 8], [], [], [3, 4, 5, 7, 8]⟩
  | 17 => ⟨[0, 3, 4, 5, 6, 7, 8, 65], [3, 4, 5, 7, 8], [], [], [3, 4, 5, 7, 8]⟩
  | 18 => ⟨[0, 3, 4, 5, 6, 7, 8], [3, 4, 5, 7, 8], [.nrm 8 [none, none, some 1, none, none]], [], [3, 4, 5, 7, 8]⟩
  | 19 => ⟨[0, 3, 4, 5, 6, 8, 71], [3, 4, 5, 8], [], [], [3, 4, 5, 8]⟩
  | 20 => ⟨[0, 3, 4, 5, 6, 8], [3, 4, 5, 8], [.nrm 8 [none, none, some 1, none, none]], [], [3, 4, 5, 8]⟩
  | 21 => ⟨[0, 3, 4, 5, 6, 7, 8, 49, 74], [3, 4, 5, 7, 8], [], [], [3, 4, 5, 7, 8]⟩
  | 22 => ⟨[0, 3, 4, 5, 6, 7, 8, 49, 74], [3, 4, 5, 7, 8], [], [], [3, 4, 5, 7, 8]⟩
  | 23 => ⟨[0, 3, 4, 5, 6, 7, 8, 74], [3, 4, 5, 7, 8], [], [], [3, 4, 5, 7, 8]⟩
  | 24 => ⟨[0, 3, 4, 5, 6, 8, 9], [3, 4, 5, 8], [], [], [3, 4, 5, 8]⟩
  | 25 => ⟨[0, 3, 4, 5, 6, 8, 9], [3, 4, 5, 8], [], [], [3, 4, 5, 8]⟩
  | 26 => ⟨[0, 3, 4, 5, 6, 8], [3, 4, 8, 94], [], [.ren 94 5], [3, 4, 5, 8, 94]⟩
  | 27 => ⟨[0, 3, 4, 5, 6], [3, 4, 5], [], [], [3, 4, 5]⟩
  | 28 => ⟨[2], [], [], [], []⟩
  | _ => ⟨[], [], [], [], []⟩
noncomputable abbrev x_diptychlaw3_made : Cx := ⟨Tryd.prog, ⟨id, nf_diptychlaw3_made, fp_diptychlaw3_made⟩, an_diptychlaw3_made⟩
theorem start_diptychlaw3_made {args : List PV} {r : PV} (ha : args.length = 1) (h : awp x_diptychlaw3_made c_diptychlaw3_made (bodyR Tryd.prog [.tmp 2] r []) (initSt args [])) : PC Tryd.prog 17 args r :=
  pc_of_awp (X := x_diptychlaw3_made) mixed Tryd.func17 (c := c_diptychlaw3_made) (by kernel_rfl) (by kernel_rfl) (rs := [.tmp 2]) (by kernel_rfl) (by kernel_rfl) (by rw [ha]; decide) h
noncomputable def c_diptychlaw3_same : Code := (Tryd.f19.body).getD .skip
def nf_diptychlaw3_same : List (Nat × Nf) := []
def fp_diptychlaw3_same : List (Nat × List Nat) := []
def an_diptychlaw3_same : Nat → Ann
  | 0 => ⟨[0, 1], [], [], [], []⟩
  | 1 => ⟨[0, 1, 10], [], [], [], []⟩
  | 2 => ⟨[4], [], [], [], []⟩
  | 3 => ⟨[0, 1, 5], [], [], [], []⟩
  | 4 => ⟨[0, 1, 5, 14], [], [], [], []⟩
  | 5 => ⟨[0, 1, 5], [], [], [], []⟩
  | 6 => ⟨[0, 1, 5, 53], [], [], [], []⟩
  | 7 => ⟨[4], [], [], [], []⟩
  | 8 => ⟨[4], [], [], [], []⟩
  | _ => ⟨[], [], [], [], []⟩
noncomputable abbrev x_diptychlaw3_same : Cx := ⟨Tryd.prog, ⟨id, nf_diptychlaw3_same, fp_diptychlaw3_same⟩, an_diptychlaw3_same⟩
theorem start_diptychlaw3_same {args : List PV} {r : PV} (ha : args.length = 2) (h : awp x_diptychlaw3_same c_diptychlaw3_same (bodyR Tryd.prog [.tmp 4] r []) (initSt args [])) : PC Tryd.prog 19 args r :=
  pc_of_awp (X := x_diptychlaw3_same) mixed Tryd.func19 (c := c_diptychlaw3_same) (by kernel_rfl) (by kernel_rfl) (rs := [.tmp 4]) (by kernel_rfl) (by kernel_rfl) (by rw [ha]; decide) h
noncomputable def c_diptychref2_Quote : Code := (Tryd.f85.body).getD .skip
def nf_diptychref2_Quote : List (Nat × Nf) := []
def fp_diptychref2_Quote : List (Nat × List Nat) := []
def an_diptychref2_Quote : Nat → Ann
  | 0 => ⟨[0], [], [], [], []⟩
  | 1 => ⟨[0, 3], [], [], [], []⟩
  | 2 => ⟨[0, 3, 4], [], [], [], []⟩
  | 3 => ⟨[0, 3, 4, 8], [], [], [], []⟩
  | 4 => ⟨[0, 3, 4], [], [], [], []⟩
  | 5 => ⟨[0, 3, 4, 20], [], [], [], []⟩
  | 6 => ⟨[0, 3, 4], [], [], [], []⟩
  | 7 => ⟨[0, 3, 4], [], [], [], []⟩
  | 8 => ⟨[2], [], [], [], []⟩
  | _ => ⟨[], [], [], [], []⟩
noncomputable abbrev x_diptychref2_Quote : Cx := ⟨Tryd.prog, ⟨id, nf_diptychref2_Quote, fp_diptychref2_Quote⟩, an_diptychref2_Quote⟩
theorem start_diptychref2_Quote {args : List PV} {r : PV} (ha : args.length = 1) (h : awp x_diptychref2_Quote c_diptychref2_Quote (bodyR Tryd.prog [.tmp 2] r []) (initSt args [])) : PC Tryd.prog 85 args r :=
  pc_of_awp (X := x_diptychref2_Quote) mixed Tryd.func85 (c := c_diptychref2_Quote) (by kernel_rfl) (by kernel_rfl) (rs := [.tmp 2]) (by kernel_rfl) (by kernel_rfl) (by rw [ha]; decide) h
noncomputable def c_diptychref2_Head : Code := (Tryd.f56.body).getD .skip
def nf_diptychref2_Head : List (Nat × Nf) := []
def fp_diptychref2_Head : List (Nat × List Nat) := []
def an_diptychref2_Head : Nat → Ann
  | 0 => ⟨[1], [1], [], [], [1]⟩
  | 1 => ⟨[1, 3], [1], [], [], [1]⟩
  | 2 => ⟨[1, 3, 8], [1], [], [], [1]⟩
  | 3 => ⟨[1, 3, 4], [1], [], [], [1]⟩
  | 4 => ⟨[1, 3, 4, 13], [1], [], [], [1]⟩
  | 5 => ⟨[1, 3, 4], [1], [], [], [1]⟩
  | 6 => ⟨[1, 3, 4, 17], [1], [], [], [1]⟩
  | 7 => ⟨[1, 3, 4], [1], [], [], [1]⟩
  | 8 => ⟨[1, 3, 4], [1], [], [], [1]⟩
  | 9 => ⟨[3, 30], [], [], [], []⟩
  | 10 => ⟨[3], [], [], [], []⟩
  | 11 => ⟨[2], [], [], [], []⟩
  | 12 => ⟨[1, 3, 5], [1], [], [], [1]⟩
  | 13 => ⟨[1, 3, 5, 39], [1], [], [], [1]⟩
  | 14 => ⟨[1, 3, 5], [1], [], [], [1]⟩
  | 15 => ⟨[1, 3, 5, 43], [1], [], [], [1]⟩
  | 16 => ⟨[1, 3, 5], [1], [], [], [1]⟩
  | 17 => ⟨[1, 3, 5], [1], [], [], [1]⟩
  | 18 => ⟨[1, 3, 66], [1], [], [], [1]⟩
  | 19 => ⟨[1, 3], [1], [], [], [1]⟩
  | 20 => ⟨[2], [], [], [], []⟩
  | _ => ⟨[], [], [], [], []⟩
noncomputable abbrev x_diptychref2_Head : Cx := ⟨Tryd.prog, ⟨id, nf_diptychref2_Head, fp_diptychref2_Head⟩, an_diptychref2_Head⟩
theorem start_diptychref2_Head {args : List PV} {r : PV} (ha : args.length = 1) (h : awp x_diptychref2_Head c_diptychref2_Head (bodyR Tryd.prog [.tmp 2] r []) (initSt args [])) : PC Tryd.prog 56 args r :=
  pc_of_awp (X := x_diptychref2_Head) mixed Tryd.func56 (c := c_diptychref2_Head) (by kernel_rfl) (by kernel_rfl) (rs := [.tmp 2]) (by kernel_rfl) (by kernel_rfl) (by rw [ha]; decide) h
noncomputable def c_diptychref3_Of : Code := (Tryd.f20.body).getD .skip
def nf_diptychref3_Of : List (Nat × Nf) := []
def fp_diptychref3_Of : List (Nat × List Nat) := [(35, []), (36, []), (37, [5]), (41, [3, 40])]
def an_diptychref3_Of : Nat → Ann
  | 0 => ⟨[0], [], [], [], []⟩
  | 1 => ⟨[0, 3], [3], [.thaw 3 3 3], [], [3]⟩
  | 2 => ⟨[0, 3, 4], [3], [], [], [3]⟩
  | 3 => ⟨[0, 3, 4, 11], [3], [], [], [3]⟩
  | 4 => ⟨[0, 3, 4], [3], [], [], [3]⟩
  | 5 => ⟨[0, 3, 4, 5], [3, 5], [], [], [3, 5]⟩
  | 6 => ⟨[0, 3, 4, 5, 20], [3, 5], [], [], [3, 5]⟩
  | 7 => ⟨[0, 3, 4, 5, 6], [3, 5], [], [], [3, 5]⟩
  | 8 => ⟨[0, 3, 4, 5, 6, 7], [3, 5], [], [], [3, 5]⟩
  | 9 => ⟨[0, 3, 4, 5, 6, 7, 27], [3, 5], [], [], [3, 5]⟩
  | 10 => ⟨[0, 3, 4, 5, 6, 7], [3, 5], [], [], [3, 5]⟩
  | 11 => ⟨[0, 3, 4, 5, 6, 7], [3, 5], [], [], [3, 5]⟩
  | 12 => ⟨[0, 3, 4, 5], [3, 5], [], [], [3, 5]⟩
  | 13 => ⟨[0, 3, 4], [3], [], [], [3]⟩
  | 14 => ⟨[0, 3, 4], [3], [], [], [3]⟩
  | 15 => ⟨[2], [3], [], [.ren 3 2], [2, 3]⟩
  | _ => ⟨[], [], [], [], []⟩
noncomputable abbrev x_diptychref3_Of : Cx := ⟨Tryd.prog, ⟨id, nf_diptychref3_Of, fp_diptychref3_Of⟩, an_diptychref3_Of⟩
theorem start_diptychref3_Of {args : List PV} {r : PV} (ha : args.length = 1) (h : awp x_diptychref3_Of c_diptychref3_Of (bodyR Tryd.prog [.tmp 2] r []) (initSt args [])) : PC Tryd.prog 20 args r :=
  pc_of_awp (X := x_diptychref3_Of) mixed Tryd.func20 (c := c_diptychref3_Of) (by kernel_rfl) (by kernel_rfl) (rs := [.tmp 2]) (by kernel_rfl) (by kernel_rfl) (by rw [ha]; decide) h
noncomputable def c_node_isText : Code := (Tryd.f63.body).getD .skip
def nf_node_isText : List (Nat × Nf) := []
def fp_node_isText : List (Nat × List Nat) := []
def an_node_isText : Nat → Ann
  | 0 => ⟨[1], [1], [], [], [1]⟩
  | 1 => ⟨[2], [], [], [], []⟩
  | _ => ⟨[], [], [], [], []⟩
noncomputable abbrev x_node_isText : Cx := ⟨Tryd.prog, ⟨id, nf_node_isText, fp_node_isText⟩, an_node_isText⟩
theorem start_node_isText {args : List PV} {r : PV} (ha : args.length = 1) (h : awp x_node_isText c_node_isText (bodyR Tryd.prog [.tmp 2] r []) (initSt args [])) : PC Tryd.prog 63 args r :=
  pc_of_awp (X := x_node_isText) mixed Tryd.func63 (c := c_node_isText) (by kernel_rfl) (by kernel_rfl) (rs := [.tmp 2]) (by kernel_rfl) (by kernel_rfl) (by rw [ha]; decide) h
noncomputable def c_unicode_utf8_RuneCountInString : Code := (Tryd.f76.body).getD .skip
def nf_unicode_utf8_RuneCountInString : List (Nat × Nf) := []
def fp_unicode_utf8_RuneCountInString : List (Nat × List Nat) := []
def an_unicode_utf8_RuneCountInString : Nat → Ann
  | 0 => ⟨[0, 2], [], [], [], []⟩
  | 1 => ⟨[2, 4], [4], [], [], [4]⟩
  | 2 => ⟨[2, 4, 6], [4], [], [], [4]⟩
  | 3 => ⟨[2, 4], [4], [], [], [4]⟩
  | 4 => ⟨[2], [], [], [], []⟩
  | _ => ⟨[], [], [], [], []⟩
noncomputable abbrev x_unicode_utf8_RuneCountInString : Cx := ⟨Tryd.prog, ⟨id, nf_unicode_utf8_RuneCountInString, fp_unicode_utf8_RuneCountInString⟩, an_unicode_utf8_RuneCountInString⟩
theorem start_unicode_utf8_RuneCountInString {args : List PV} {r : PV} (ha : args.length = 1) (h : awp x_unicode_utf8_RuneCountInString c_unicode_utf8_RuneCountInString (bodyR Tryd.prog [.tmp 2] r []) (initSt args [])) : PC Tryd.prog 76 args r :=
  pc_of_awp (X := x_unicode_utf8_RuneCountInString) mixed Tryd.func76 (c := c_unicode_utf8_RuneCountInString) (by kernel_rfl) (by kernel_rfl) (rs := [.tmp 2]) (by kernel_rfl) (by kernel_rfl) (by rw [ha]; decide) h
noncomputable def c_node_Size : Code := (Tryd.f46.body).getD .skip
def nf_node_Size : List (Nat × Nf) := []
def fp_node_Size : List (Nat × List Nat) := []
def an_node_Size : Nat → Ann
  | 0 => ⟨[1], [1], [], [], [1]⟩
  | 1 => ⟨[1, 4], [1], [], [], [1]⟩
  | 2 => ⟨[2], [], [], [], []⟩
  | 3 => ⟨[2], [], [], [], []⟩
  | _ => ⟨[], [], [], [], []⟩
noncomputable abbrev x_node_Size : Cx := ⟨Tryd.prog, ⟨id, nf_node_Size, fp_node_Size⟩, an_node_Size⟩
theorem start_node_Size {args : List PV} {r : PV} (ha : args.length = 1) (h : awp x_node_Size c_node_Size (bodyR Tryd.prog [.tmp 2] r []) (initSt args [])) : PC Tryd.prog 46 args r :=
  pc_of_awp (X := x_node_Size) mixed Tryd.func46 (c := c_node_Size) (by kernel_rfl) (by kernel_rfl) (rs := [.tmp 2]) (by kernel_rfl) (by kernel_rfl) (by rw [ha]; decide) h
noncomputable def c_node_Total : Code := (Tryd.f21.body).getD .skip
def nf_node_Total : List (Nat × Nf) := []
def fp_node_Total : List (Nat × List Nat) := []
def an_node_Total : Nat → Ann
  | 0 => ⟨[0], [], [], [], []⟩
  | 1 => ⟨[0, 3], [], [], [], []⟩
  | 2 => ⟨[3, 6, 7, 8], [], [], [], []⟩
  | 3 => ⟨[3, 6, 7, 8, 9], [], [], [], []⟩
  | 4 => ⟨[3, 5, 6, 7, 8], [5], [], [], [5]⟩
  | 5 => ⟨[3, 6, 7, 8], [], [], [], []⟩
  | 6 => ⟨[3, 6, 7, 8], [], [], [], []⟩
  | 7 => ⟨[2], [], [], [], []⟩
  | _ => ⟨[], [], [], [], []⟩
noncomputable abbrev x_node_Total : Cx := ⟨Tryd.prog, ⟨id, nf_node_Total, fp_node_Total⟩, an_node_Total⟩
theorem start_node_Total {args : List PV} {r : PV} (ha : args.length = 1) (h : awp x_node_Total c_node_Total (bodyR Tryd.prog [.tmp 2] r []) (initSt args [])) : PC Tryd.prog 21 args r :=
  pc_of_awp (X := x_node_Total) mixed Tryd.func21 (c := c_node_Total) (by kernel_rfl) (by kernel_rfl) (rs := [.tmp 2]) (by kernel_rfl) (by kernel_rfl) (by rw [ha]; decide) h
noncomputable def c_diptychlaw3_TokenRows : Code := (Tryd.f3.body).getD .skip
def nf_diptychlaw3_TokenRows : List (Nat × Nf) := [(42, [some 5]), (45, [some 5])]
def fp_diptychlaw3_TokenRows : List (Nat × List Nat) := [(41, [3]), (44, [3])]
def an_diptychlaw3_TokenRows : Nat → Ann
  | 0 => ⟨[0, 3], [3], [], [], [3]⟩
  | 1 => ⟨[0, 3, 5], [3], [], [], [3]⟩
  | 2 => ⟨[0, 3, 5, 6], [3], [], [], [3]⟩
  | 3 => ⟨[0, 3, 5, 23], [3], [], [], [3]⟩
  | 4 => ⟨[4], [], [], [], []⟩
  | 5 => ⟨[3, 7], [3], [], [], [3]⟩
  | 6 => ⟨[3, 7, 8], [3], [], [], [3]⟩
  | 7 => ⟨[4], [], [], [], []⟩
  | _ => ⟨[], [], [], [], []⟩
noncomputable abbrev x_diptychlaw3_TokenRows : Cx := ⟨Tryd.prog, ⟨id, nf_diptychlaw3_TokenRows, fp_diptychlaw3_TokenRows⟩, an_diptychlaw3_TokenRows⟩
theorem start_diptychlaw3_TokenRows {args : List PV} {r : PV} (ha : args.length = 2) (h : awp x_diptychlaw3_TokenRows c_diptychlaw3_TokenRows (bodyR Tryd.prog [.tmp 4] r []) (initSt args [])) : PC Tryd.prog 3 args r :=
  pc_of_awp (X := x_diptychlaw3_TokenRows) mixed Tryd.func3 (c := c_diptychlaw3_TokenRows) (by kernel_rfl) (by kernel_rfl) (rs := [.tmp 4]) (by kernel_rfl) (by kernel_rfl) (by rw [ha]; decide) h
noncomputable def c_token_Same : Code := (Tryd.f22.body).getD .skip
def nf_token_Same : List (Nat × Nf) := []
def fp_token_Same : List (Nat × List Nat) := []
def an_token_Same : Nat → Ann
  | 0 => ⟨[0, 1], [], [], [], []⟩
  | 1 => ⟨[0, 1, 7, 8, 9], [], [], [], []⟩
  | 2 => ⟨[0, 1, 7, 8, 9, 10], [], [], [], []⟩
  | 3 => ⟨[0, 1, 5, 6, 7, 8, 9], [6], [], [], [6]⟩
  | 4 => ⟨[0, 1, 5, 7, 8, 9, 25], [], [], [], []⟩
  | 5 => ⟨[4], [], [], [], []⟩
  | 6 => ⟨[0, 1, 7, 8, 9], [], [], [], []⟩
  | 7 => ⟨[4], [], [], [], []⟩
  | _ => ⟨[], [], [], [], []⟩
noncomputable abbrev x_token_Same : Cx := ⟨Tryd.prog, ⟨id, nf_token_Same, fp_token_Same⟩, an_token_Same⟩
theorem start_token_Same {args : List PV} {r : PV} (ha : args.length = 2) (h : awp x_token_Same c_token_Same (bodyR Tryd.prog [.tmp 4] r []) (initSt args [])) : PC Tryd.prog 22 args r :=
  pc_of_awp (X := x_token_Same) mixed Tryd.func22 (c := c_token_Same) (by kernel_rfl) (by kernel_rfl) (rs := [.tmp 4]) (by kernel_rfl) (by kernel_rfl) (by rw [ha]; decide) h
noncomputable def c_slices_Clone_token_Token : Code := (Tryd.f57.body).getD .skip
def nf_slices_Clone_token_Token : List (Nat × Nf) := []
def fp_slices_Clone_token_Token : List (Nat × List Nat) := []
def an_slices_Clone_token_Token : Nat → Ann
  | 0 => ⟨[0], [5], [], [], [5]⟩
  | 1 => ⟨[0, 4], [5], [], [], [5]⟩
  | 2 => ⟨[2], [5], [], [], [5]⟩
  | 3 => ⟨[2], [5], [], [], [5]⟩
  | _ => ⟨[], [], [], [], []⟩
noncomputable abbrev x_slices_Clone_token_Token : Cx := ⟨Tryd.prog, ⟨id, nf_slices_Clone_token_Token, fp_slices_Clone_token_Token⟩, an_slices_Clone_token_Token⟩
theorem start_slices_Clone_token_Token {args : List PV} {r : PV} (ha : args.length = 1) (h : awp x_slices_Clone_token_Token c_slices_Clone_token_Token (bodyR Tryd.prog [.tmp 2] r []) (initSt args [])) : PC Tryd.prog 57 args r :=
  pc_of_awp (X := x_slices_Clone_token_Token) mixed Tryd.func57 (c := c_slices_Clone_token_Token) (by kernel_rfl) (by kernel_rfl) (rs := [.tmp 2]) (by kernel_rfl) (by kernel_rfl) (by rw [ha]; decide) h
noncomputable def c_slices_Reverse_token_Token_x : Code := (Tryd.f58.body).getD .skip
def nf_slices_Reverse_token_Token_x : List (Nat × Nf) := []
def fp_slices_Reverse_token_Token_x : List (Nat × List Nat) := []
def an_slices_Reverse_token_Token_x : Nat → Ann
  | 0 => ⟨[0, 2, 3], [1000], [], [], [1000]⟩
  | 1 => ⟨[0, 2, 3, 9], [1000], [], [], [1000]⟩
  | 2 => ⟨[0, 2, 3], [1000], [], [], [1000]⟩
  | 3 => ⟨[0, 2, 3], [1000], [], [], [1000]⟩
  | _ => ⟨[], [], [], [], []⟩
noncomputable abbrev x_slices_Reverse_token_Token_x : Cx := ⟨Tryd.prog, ⟨id, nf_slices_Reverse_token_Token_x, fp_slices_Reverse_token_Token_x⟩, an_slices_Reverse_token_Token_x⟩
theorem start_slices_Reverse_token_Token_x {args : List PV} {es es' : List Ent} {r : PV} (ha : args.length = 1) (hl : es'.length = es.length) (he : (es'.all fun e => e.extOk es.length) = true) (h : awp x_slices_Reverse_token_Token_x c_slices_Reverse_token_Token_x (bodyR Tryd.prog [] r es') (initSt args es)) : BC Tryd.prog 58 args es r es' :=
  bc_of_awp (X := x_slices_Reverse_token_Token_x) mixed Tryd.func58 (c := c_slices_Reverse_token_Token_x) (by kernel_rfl) (by kernel_rfl) (rs := []) (by kernel_rfl) (by kernel_rfl) (by rw [ha]; decide) hl (fun e h => List.all_eq_true.1 he e h) h
noncomputable def c_token_Back : Code := (Tryd.f23.body).getD .skip
def nf_token_Back : List (Nat × Nf) := []
def fp_token_Back : List (Nat × List Nat) := [(11, []), (12, []), (15, []), (16, [])]
def an_token_Back : Nat → Ann
  | 0 => ⟨[0, 1], [], [], [], []⟩
  | 1 => ⟨[0, 1, 5], [], [], [], []⟩
  | 2 => ⟨[0, 1], [12, 16], [], [.ren 12 0, .ren 16 1], [0, 1, 12, 16]⟩
  | 3 => ⟨[0, 1], [0, 1], [], [], [0, 1]⟩
  | 4 => ⟨[0, 1], [0, 1], [], [], [0, 1]⟩
  | 5 => ⟨[4], [], [], [], []⟩
  | _ => ⟨[], [], [], [], []⟩
noncomputable abbrev x_token_Back : Cx := ⟨Tryd.prog, ⟨id, nf_token_Back, fp_token_Back⟩, an_token_Back⟩
theorem start_token_Back {args : List PV} {r : PV} (ha : args.length = 2) (h : awp x_token_Back c_token_Back (bodyR Tryd.prog [.tmp 4] r []) (initSt args [])) : PC Tryd.prog 23 args r :=
  pc_of_awp (X := x_token_Back) mixed Tryd.func23 (c := c_token_Back) (by kernel_rfl) (by kernel_rfl) (rs := [.tmp 4]) (by kernel_rfl) (by kernel_rfl) (by rw [ha]; decide) h
noncomputable def c_diptychlaw3_TokenEnds : Code := (Tryd.f4.body).getD .skip
def nf_diptychlaw3_TokenEnds : List (Nat × Nf) := []
def fp_diptychlaw3_TokenEnds : List (Nat × List Nat) := []
def an_diptychlaw3_TokenEnds : Nat → Ann
  | 0 => ⟨[0, 1], [], [], [], []⟩
  | 1 => ⟨[0, 1, 5], [], [], [], []⟩
  | 2 => ⟨[0, 1, 14], [], [], [], []⟩
  | 3 => ⟨[4], [], [], [], []⟩
  | 4 => ⟨[1, 6], [], [], [], []⟩
  | 5 => ⟨[6, 7], [], [], [], []⟩
  | 6 => ⟨[6, 7, 8], [], [], [], []⟩
  | 7 => ⟨[6, 7, 8, 9], [], [], [], []⟩
  | 8 => ⟨[6, 7, 8, 9, 43], [], [], [], []⟩
  | 9 => ⟨[4], [], [], [], []⟩
  | 10 => ⟨[6, 7, 8, 9, 10], [], [], [], []⟩
  | 11 => ⟨[6, 7, 8, 9, 10, 46], [], [], [], []⟩
  | 12 => ⟨[6, 7, 8, 9, 10], [], [], [], []⟩
  | 13 => ⟨[6, 7, 8, 9, 10, 57], [], [], [], []⟩
  | 14 => ⟨[4], [], [], [], []⟩
  | 15 => ⟨[6, 7, 8, 9, 11], [], [], [], []⟩
  | 16 => ⟨[6, 7, 8, 9, 11, 60], [], [], [], []⟩
  | 17 => ⟨[6, 7, 8, 9, 11], [], [], [], []⟩
  | 18 => ⟨[6, 7, 8, 9, 11, 77], [], [], [], []⟩
  | 19 => ⟨[4], [], [], [], []⟩
  | 20 => ⟨[6, 7, 8, 9, 98], [], [], [], []⟩
  | 21 => ⟨[4], [], [], [], []⟩
  | 22 => ⟨[4], [], [], [], []⟩
  | _ => ⟨[], [], [], [], []⟩
noncomputable abbrev x_diptychlaw3_TokenEnds : Cx := ⟨Tryd.prog, ⟨id, nf_diptychlaw3_TokenEnds, fp_diptychlaw3_TokenEnds⟩, an_diptychlaw3_TokenEnds⟩
theorem start_diptychlaw3_TokenEnds {args : List PV} {r : PV} (ha : args.length = 2) (h : awp x_diptychlaw3_TokenEnds c_diptychlaw3_TokenEnds (bodyR Tryd.prog [.tmp 4] r []) (initSt args [])) : PC Tryd.prog 4 args r :=
  pc_of_awp (X := x_diptychlaw3_TokenEnds) mixed Tryd.func4 (c := c_diptychlaw3_TokenEnds) (by kernel_rfl) (by kernel_rfl) (rs := [.tmp 4]) (by kernel_rfl) (by kernel_rfl) (by rw [ha]; decide) h
noncomputable def c_diptychlaw3_as : Code := (Tryd.f24.body).getD .skip
def nf_diptychlaw3_as : List (Nat × Nf) := []
def fp_diptychlaw3_as : List (Nat × List Nat) := [(14, []), (15, []), (16, []), (19, []), (20, []), (21, []), (24, []), (25, []), (26, []), (29, [3, 28])]
def an_diptychlaw3_as : Nat → Ann
  | 0 => ⟨[0], [], [], [], []⟩
  | 1 => ⟨[0, 3], [3], [.thaw 3 3 3], [], [3]⟩
  | 2 => ⟨[0, 3, 4], [3], [], [], [3]⟩
  | 3 => ⟨[0, 3, 4, 8], [3], [], [], [3]⟩
  | 4 => ⟨[0, 3, 4], [3], [], [], [3]⟩
  | 5 => ⟨[0, 3, 4], [3], [], [], [3]⟩
  | 6 => ⟨[2], [3], [], [.ren 3 2], [2, 3]⟩
  | _ => ⟨[], [], [], [], []⟩
noncomputable abbrev x_diptychlaw3_as : Cx := ⟨Tryd.prog, ⟨id, nf_diptychlaw3_as, fp_diptychlaw3_as⟩, an_diptychlaw3_as⟩
theorem start_diptychlaw3_as {args : List PV} {r : PV} (ha : args.length = 1) (h : awp x_diptychlaw3_as c_diptychlaw3_as (bodyR Tryd.prog [.tmp 2] r []) (initSt args [])) : PC Tryd.prog 24 args r :=
  pc_of_awp (X := x_diptychlaw3_as) mixed Tryd.func24 (c := c_diptychlaw3_as) (by kernel_rfl) (by kernel_rfl) (rs := [.tmp 2]) (by kernel_rfl) (by kernel_rfl) (by rw [ha]; decide) h
noncomputable def c_diptychlaw3_TokenLens : Code := (Tryd.f5.body).getD .skip
def nf_diptychlaw3_TokenLens : List (Nat × Nf) := []
def fp_diptychlaw3_TokenLens : List (Nat × List Nat) := []
def an_diptychlaw3_TokenLens : Nat → Ann
  | 0 => ⟨[0, 1], [], [], [], []⟩
  | 1 => ⟨[0, 1, 5], [], [], [], []⟩
  | 2 => ⟨[0, 1, 13], [], [], [], []⟩
  | 3 => ⟨[4], [], [], [], []⟩
  | 4 => ⟨[1, 6], [], [], [], []⟩
  | 5 => ⟨[6, 7], [], [], [], []⟩
  | 6 => ⟨[6, 7, 8], [], [], [], []⟩
  | 7 => ⟨[6, 7, 8, 9], [], [], [], []⟩
  | 8 => ⟨[6, 7, 8, 9, 42], [], [], [], []⟩
  | 9 => ⟨[4], [], [], [], []⟩
  | 10 => ⟨[6, 7, 8, 9, 10], [43], [], [.ren 43 10], [10, 43]⟩
  | 11 => ⟨[6, 7, 8, 9, 10], [10], [], [], [10]⟩
  | 12 => ⟨[6, 7, 8, 9, 10], [10], [], [], [10]⟩
  | 13 => ⟨[4], [], [], [], []⟩
  | _ => ⟨[], [], [], [], []⟩
noncomputable abbrev x_diptychlaw3_TokenLens : Cx := ⟨Tryd.prog, ⟨id, nf_diptychlaw3_TokenLens, fp_diptychlaw3_TokenLens⟩, an_diptychlaw3_TokenLens⟩
theorem start_diptychlaw3_TokenLens {args : List PV} {r : PV} (ha : args.length = 2) (h : awp x_diptychlaw3_TokenLens c_diptychlaw3_TokenLens (bodyR Tryd.prog [.tmp 4] r []) (initSt args [])) : PC Tryd.prog 5 args r :=
  pc_of_awp (X := x_diptychlaw3_TokenLens) mixed Tryd.func5 (c := c_diptychlaw3_TokenLens) (by kernel_rfl) (by kernel_rfl) (rs := [.tmp 4]) (by kernel_rfl) (by kernel_rfl) (by rw [ha]; decide) h
attribute [go_sem] an_codec_Quote nf_codec_Quote fp_codec_Quote an_codec_Head nf_codec_Head fp_codec_Head an_token_Of nf_token_Of fp_token_Of an_diptychlaw3_shown nf_diptychlaw3_shown fp_diptychlaw3_shown an_diptychlaw3_short nf_diptychlaw3_short fp_diptychlaw3_short an_diptychlaw3_pick nf_diptychlaw3_pick fp_diptychlaw3_pick an_diptychref1_sameNames nf_diptychref1_sameNames fp_diptychref1_sameNames an_diptychref1_Join nf_diptychref1_Join fp_diptychref1_Join an_diptychlaw3_made nf_diptychlaw3_made fp_diptychlaw3_made an_diptychlaw3_same nf_diptychlaw3_same fp_diptychlaw3_same an_diptychref2_Quote nf_diptychref2_Quote fp_diptychref2_Quote an_diptychref2_Head nf_diptychref2_Head fp_diptychref2_Head an_diptychref3_Of nf_diptychref3_Of fp_diptychref3_Of an_node_isText nf_node_isText fp_node_isText an_unicode_utf8_RuneCountInString nf_unicode_utf8_RuneCountInString fp_unicode_utf8_RuneCountInString an_node_Size nf_node_Size fp_node_Size an_node_Total nf_node_Total fp_node_Total an_diptychlaw3_TokenRows nf_diptychlaw3_TokenRows fp_diptychlaw3_TokenRows an_token_Same nf_token_Same fp_token_Same an_slices_Clone_token_Token nf_slices_Clone_token_Token fp_slices_Clone_token_Token an_slices_Reverse_token_Token_x nf_slices_Reverse_token_Token_x fp_slices_Reverse_token_Token_x an_token_Back nf_token_Back fp_token_Back an_diptychlaw3_TokenEnds nf_diptychlaw3_TokenEnds fp_diptychlaw3_TokenEnds an_diptychlaw3_as nf_diptychlaw3_as fp_diptychlaw3_as an_diptychlaw3_TokenLens nf_diptychlaw3_TokenLens fp_diptychlaw3_TokenLens ty3 ty4 ty5 ty9 ty21 ty22 ty23 ty24 ty25 ty27 ty31 ty34 ty40 ty53 ty58 ty77 ty78 diptychlaw3_Cell.pv_eq api_Attr.pv_eq api_Node.pv_eq token_Token.pv_eq diptychref3_Token.pv_eq pvL

end Go.Proofs.YtlgjbmgmoaphjaaDoor
