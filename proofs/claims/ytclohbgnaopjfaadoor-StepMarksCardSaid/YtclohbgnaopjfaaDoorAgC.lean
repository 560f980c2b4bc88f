/- Texts of the proof of stepMarksCard -/
import Derived.Test.YtclohbgnaopjfaaDoorAgT
import Derived.Test.YtclohbgnaopjfaaDoorAwT
namespace Go.Proofs.YtclohbgnaopjfaaDoor
set_option linter.unusedSimpArgs false
set_option linter.unusedVariables false
open Go
set_option maxRecDepth 100000
noncomputable def YY : Code := (Tryd.f58.body).getD .skip
def Xx : List (Nat × Nf) := []
def J6 : List (Nat × List Nat) := []
def XU : Nat → Ann
  | 0 => ⟨[1], [1], [], [], [1]⟩
  | 1 => ⟨[2], [], [], [], []⟩
  | _ => ⟨[], [], [], [], []⟩
noncomputable abbrev YR : Cx := ⟨Tryd.prog, ⟨id, Xx, J6⟩, XU⟩
theorem aaV {args : List PV} {r : PV} (ha : args.length = 1) (h : awp YR YY (zQ Tryd.prog [.tmp 2] r []) (zO args [])) : PC Tryd.prog 58 args r :=
  zJ (X := YR) mixed Tryd.func58 (c := YY) (by kernel_rfl) (by kernel_rfl) (rs := [.tmp 2]) (by kernel_rfl) (by kernel_rfl) (by rw [ha]; decide) h
noncomputable def jy : Code := (Tryd.f63.body).getD .skip
def jk : List (Nat × Nf) := []
def jl : List (Nat × List Nat) := []
def ji : Nat → Ann
  | 0 => ⟨[0, 2], [], [], [], []⟩
  | 1 => ⟨[2, 4], [4], [], [], [4]⟩
  | 2 => ⟨[2, 4, 6], [4], [], [], [4]⟩
  | 3 => ⟨[2, 4], [4], [], [], [4]⟩
  | 4 => ⟨[2], [], [], [], []⟩
  | _ => ⟨[], [], [], [], []⟩
noncomputable abbrev jD : Cx := ⟨Tryd.prog, ⟨id, jk, jl⟩, ji⟩
theorem yE {args : List PV} {r : PV} (ha : args.length = 1) (h : awp jD jy (zQ Tryd.prog [.tmp 2] r []) (zO args [])) : PC Tryd.prog 63 args r :=
  zJ (X := jD) mixed Tryd.func63 (c := jy) (by kernel_rfl) (by kernel_rfl) (rs := [.tmp 2]) (by kernel_rfl) (by kernel_rfl) (by rw [ha]; decide) h
noncomputable def aaY : Code := (Tryd.f27.body).getD .skip
def YC : List (Nat × Nf) := []
def YL : List (Nat × List Nat) := []
def YJ : Nat → Ann
  | 0 => ⟨[0], [], [], [], []⟩
  | 1 => ⟨[0, 3], [], [], [], []⟩
  | 2 => ⟨[3, 6, 7, 8], [], [], [], []⟩
  | 3 => ⟨[3, 6, 7, 8, 9], [], [], [], []⟩
  | 4 => ⟨[3, 5, 6, 7, 8], [5], [], [], [5]⟩
  | 5 => ⟨[3, 6, 7, 8], [], [], [], []⟩
  | 6 => ⟨[3, 6, 7, 8], [], [], [], []⟩
  | 7 => ⟨[2], [], [], [], []⟩
  | _ => ⟨[], [], [], [], []⟩
noncomputable abbrev aco : Cx := ⟨Tryd.prog, ⟨id, YC, YL⟩, YJ⟩
theorem acP {args : List PV} {r : PV} (ha : args.length = 1) (h : awp aco aaY (zQ Tryd.prog [.tmp 2] r []) (zO args [])) : PC Tryd.prog 27 args r :=
  zJ (X := aco) mixed Tryd.func27 (c := aaY) (by kernel_rfl) (by kernel_rfl) (rs := [.tmp 2]) (by kernel_rfl) (by kernel_rfl) (by rw [ha]; decide) h
noncomputable def adB : Code := (Tryd.f34.body).getD .skip
def abe : List (Nat × Nf) := []
def abD : List (Nat × List Nat) := []
def ab5 : Nat → Ann
  | 0 => ⟨[1], [1], [], [], [1]⟩
  | 1 => ⟨[1, 4], [1], [], [], [1]⟩
  | 2 => ⟨[2], [], [], [], []⟩
  | 3 => ⟨[2], [], [], [], []⟩
  | _ => ⟨[], [], [], [], []⟩
noncomputable abbrev ad4 : Cx := ⟨Tryd.prog, ⟨id, abe, abD⟩, ab5⟩
theorem aeo {args : List PV} {r : PV} (ha : args.length = 1) (h : awp ad4 adB (zQ Tryd.prog [.tmp 2] r []) (zO args [])) : PC Tryd.prog 34 args r :=
  zJ (X := ad4) mixed Tryd.func34 (c := adB) (by kernel_rfl) (by kernel_rfl) (rs := [.tmp 2]) (by kernel_rfl) (by kernel_rfl) (by rw [ha]; decide) h
noncomputable def Qy : Code := (Tryd.f42.body).getD .skip
def Qe : List (Nat × Nf) := []
def Z0 : List (Nat × List Nat) := []
def ZO : Nat → Ann
  | 0 => ⟨[0, 1], [], [], [], []⟩
  | 1 => ⟨[0, 1, 10], [], [], [], []⟩
  | 2 => ⟨[4], [], [], [], []⟩
  | 3 => ⟨[0, 1, 12, 13], [], [], [], []⟩
  | 4 => ⟨[0, 1, 12, 13, 14], [], [], [], []⟩
  | 5 => ⟨[0, 1, 5, 12, 13], [], [], [], []⟩
  | 6 => ⟨[0, 1, 12, 13, 24], [], [], [], []⟩
  | 7 => ⟨[4], [], [], [], []⟩
  | 8 => ⟨[0, 1, 12, 13], [], [], [], []⟩
  | 9 => ⟨[4], [], [], [], []⟩
  | _ => ⟨[], [], [], [], []⟩
noncomputable abbrev Qw : Cx := ⟨Tryd.prog, ⟨id, Qe, Z0⟩, ZO⟩
theorem KZ {args : List PV} {r : PV} (ha : args.length = 2) (h : awp Qw Qy (zQ Tryd.prog [.tmp 4] r []) (zO args [])) : PC Tryd.prog 42 args r :=
  zJ (X := Qw) mixed Tryd.func42 (c := Qy) (by kernel_rfl) (by kernel_rfl) (rs := [.tmp 4]) (by kernel_rfl) (by kernel_rfl) (by rw [ha]; decide) h
noncomputable def ab2 : Code := (Tryd.f104.body).getD .skip
def Yz : List (Nat × Nf) := []
def YI : List (Nat × List Nat) := []
def aaf : Nat → Ann
  | 0 => ⟨[2, 3], [2, 3], [], [], [2, 3]⟩
  | 1 => ⟨[4], [], [], [], []⟩
  | _ => ⟨[], [], [], [], []⟩
noncomputable abbrev abv : Cx := ⟨Tryd.prog, ⟨id, Yz, YI⟩, aaf⟩
theorem adh {args : List PV} {r : PV} (ha : args.length = 2) (h : awp abv ab2 (zQ Tryd.prog [.tmp 4] r []) (zO args [])) : PC Tryd.prog 104 args r :=
  zJ (X := abv) mixed Tryd.func104 (c := ab2) (by kernel_rfl) (by kernel_rfl) (rs := [.tmp 4]) (by kernel_rfl) (by kernel_rfl) (by rw [ha]; decide) h
noncomputable def adJ : Code := (Tryd.f80.body).getD .skip
def abN : List (Nat × Nf) := []
def acn : List (Nat × List Nat) := []
def acw : Nat → Ann
  | 0 => ⟨[0], [], [], [], []⟩
  | 1 => ⟨[0, 3], [], [], [], []⟩
  | 2 => ⟨[2], [], [], [], []⟩
  | _ => ⟨[], [], [], [], []⟩
noncomputable abbrev adC : Cx := ⟨Tryd.prog, ⟨id, abN, acn⟩, acw⟩
theorem aet {args : List PV} {r : PV} (ha : args.length = 1) (h : awp adC adJ (zQ Tryd.prog [.tmp 2] r []) (zO args [])) : PC Tryd.prog 80 args r :=
  zJ (X := adC) mixed Tryd.func80 (c := adJ) (by kernel_rfl) (by kernel_rfl) (rs := [.tmp 2]) (by kernel_rfl) (by kernel_rfl) (by rw [ha]; decide) h
noncomputable def adE : Code := (Tryd.f111.body).getD .skip
def acu : List (Nat × Nf) := []
def acp : List (Nat × List Nat) := []
def acg : Nat → Ann
  | 0 => ⟨[0], [], [], [], []⟩
  | 1 => ⟨[0, 5, 6, 7], [], [], [], []⟩
  | 2 => ⟨[0, 5, 6, 7, 8], [], [], [], []⟩
  | 3 => ⟨[0, 3, 4, 5, 6, 7], [], [], [], []⟩
  | 4 => ⟨[0, 5, 6, 7, 27], [], [], [], []⟩
  | 5 => ⟨[2], [], [], [], []⟩
  | 6 => ⟨[0, 5, 6, 7], [], [], [], []⟩
  | 7 => ⟨[2], [], [], [], []⟩
  | _ => ⟨[], [], [], [], []⟩
noncomputable abbrev ad3 : Cx := ⟨Tryd.prog, ⟨id, acu, acp⟩, acg⟩
theorem aew {args : List PV} {r : PV} (ha : args.length = 1) (h : awp ad3 adE (zQ Tryd.prog [.tmp 2] r []) (zO args [])) : PC Tryd.prog 111 args r :=
  zJ (X := ad3) mixed Tryd.func111 (c := adE) (by kernel_rfl) (by kernel_rfl) (rs := [.tmp 2]) (by kernel_rfl) (by kernel_rfl) (by rw [ha]; decide) h
noncomputable def aba : Code := (Tryd.f81.body).getD .skip
def YF : List (Nat × Nf) := []
def aae : List (Nat × List Nat) := []
def YV : Nat → Ann
  | 0 => ⟨[0], [], [], [], []⟩
  | 1 => ⟨[2], [], [], [], []⟩
  | _ => ⟨[], [], [], [], []⟩
noncomputable abbrev aa7 : Cx := ⟨Tryd.prog, ⟨id, YF, aae⟩, YV⟩
theorem acN {args : List PV} {r : PV} (ha : args.length = 1) (h : awp aa7 aba (zQ Tryd.prog [.tmp 2] r []) (zO args [])) : PC Tryd.prog 81 args r :=
  zJ (X := aa7) mixed Tryd.func81 (c := aba) (by kernel_rfl) (by kernel_rfl) (rs := [.tmp 2]) (by kernel_rfl) (by kernel_rfl) (by rw [ha]; decide) h
noncomputable def aat : Code := (Tryd.f93.body).getD .skip
def Xg : List (Nat × Nf) := []
def Xy : List (Nat × List Nat) := []
def Xz : Nat → Ann
  | 0 => ⟨[1], [1], [], [], [1]⟩
  | 1 => ⟨[1, 9], [1], [], [], [1]⟩
  | 2 => ⟨[2], [], [], [], []⟩
  | 3 => ⟨[1, 3], [1, 3], [.thaw 3 3 1], [], [1, 3]⟩
  | 4 => ⟨[1, 3, 34, 35, 36], [1, 3], [], [], [1, 3]⟩
  | 5 => ⟨[1, 3, 34, 35, 36, 37], [1, 3], [], [], [1, 3]⟩
  | 6 => ⟨[1, 3, 5, 34, 35, 36], [1, 3, 5], [], [], [1, 3, 5]⟩
  | 7 => ⟨[1, 3, 5, 34, 35, 36, 43], [1, 3, 5], [], [], [1, 3, 5]⟩
  | 8 => ⟨[2], [], [], [], []⟩
  | 9 => ⟨[1, 3, 34, 35, 36], [1, 3], [], [], [1, 3]⟩
  | 10 => ⟨[1, 3, 34, 35, 36], [1, 3], [], [], [1, 3]⟩
  | 11 => ⟨[1, 69], [1], [], [], [1]⟩
  | 12 => ⟨[2], [], [], [], []⟩
  | 13 => ⟨[1, 71, 72, 73], [1], [], [], [1]⟩
  | 14 => ⟨[1, 71, 72, 73, 74], [1], [], [], [1]⟩
  | 15 => ⟨[1, 6, 7, 71, 72, 73], [1, 7], [], [], [1, 7]⟩
  | 16 => ⟨[1, 71, 72, 73, 94], [1], [], [], [1]⟩
  | 17 => ⟨[2], [], [], [], []⟩
  | 18 => ⟨[1, 71, 72, 73], [1], [], [], [1]⟩
  | 19 => ⟨[2], [], [], [], []⟩
  | _ => ⟨[], [], [], [], []⟩
noncomputable abbrev YQ : Cx := ⟨Tryd.prog, ⟨id, Xg, Xy⟩, Xz⟩
theorem aa9 {args : List PV} {r : PV} (ha : args.length = 1) (h : awp YQ aat (zQ Tryd.prog [.tmp 2] r []) (zO args [])) : PC Tryd.prog 93 args r :=
  zJ (X := YQ) mixed Tryd.func93 (c := aat) (by kernel_rfl) (by kernel_rfl) (rs := [.tmp 2]) (by kernel_rfl) (by kernel_rfl) (by rw [ha]; decide) h
noncomputable def abO : Code := (Tryd.f94.body).getD .skip
def aah : List (Nat × Nf) := []
def YO : List (Nat × List Nat) := []
def aai : Nat → Ann
  | 0 => ⟨[1], [1], [], [], [1]⟩
  | 1 => ⟨[1, 7], [1], [], [], [1]⟩
  | 2 => ⟨[2], [], [], [], []⟩
  | 3 => ⟨[1, 3], [1], [], [], [1]⟩
  | 4 => ⟨[3, 9, 10, 11], [], [], [], []⟩
  | 5 => ⟨[3, 9, 10, 11, 12], [], [], [], []⟩
  | 6 => ⟨[3, 5, 9, 10, 11], [5], [], [], [5]⟩
  | 7 => ⟨[3, 9, 10, 11], [], [], [], []⟩
  | 8 => ⟨[3, 9, 10, 11], [], [], [], []⟩
  | 9 => ⟨[2], [], [], [], []⟩
  | _ => ⟨[], [], [], [], []⟩
noncomputable abbrev abR : Cx := ⟨Tryd.prog, ⟨id, aah, YO⟩, aai⟩
theorem acU {args : List PV} {r : PV} (ha : args.length = 1) (h : awp abR abO (zQ Tryd.prog [.tmp 2] r []) (zO args [])) : PC Tryd.prog 94 args r :=
  zJ (X := abR) mixed Tryd.func94 (c := abO) (by kernel_rfl) (by kernel_rfl) (rs := [.tmp 2]) (by kernel_rfl) (by kernel_rfl) (by rw [ha]; decide) h
noncomputable def abl : Code := (Tryd.f64.body).getD .skip
def YX : List (Nat × Nf) := []
def aac : List (Nat × List Nat) := []
def aas : Nat → Ann
  | 0 => ⟨[1], [1], [], [], [1]⟩
  | 1 => ⟨[1, 3], [1], [], [], [1]⟩
  | 2 => ⟨[2], [], [], [], []⟩
  | 3 => ⟨[1, 7], [1], [], [], [1]⟩
  | 4 => ⟨[2], [], [], [], []⟩
  | 5 => ⟨[11], [], [], [], []⟩
  | 6 => ⟨[2], [], [], [], []⟩
  | 7 => ⟨[2], [], [], [], []⟩
  | _ => ⟨[], [], [], [], []⟩
noncomputable abbrev abz : Cx := ⟨Tryd.prog, ⟨id, YX, aac⟩, aas⟩
theorem acR {args : List PV} {r : PV} (ha : args.length = 1) (h : awp abz abl (zQ Tryd.prog [.tmp 2] r []) (zO args [])) : PC Tryd.prog 64 args r :=
  zJ (X := abz) mixed Tryd.func64 (c := abl) (by kernel_rfl) (by kernel_rfl) (rs := [.tmp 2]) (by kernel_rfl) (by kernel_rfl) (by rw [ha]; decide) h
noncomputable def abd : Code := (Tryd.f36.body).getD .skip
def aaj : List (Nat × Nf) := []
def aab : List (Nat × List Nat) := []
def Y1 : Nat → Ann
  | 0 => ⟨[1], [1], [], [], [1]⟩
  | 1 => ⟨[2], [], [], [], []⟩
  | _ => ⟨[], [], [], [], []⟩
noncomputable abbrev ab8 : Cx := ⟨Tryd.prog, ⟨id, aaj, aab⟩, Y1⟩
theorem ac9 {args : List PV} {r : PV} (ha : args.length = 1) (h : awp ab8 abd (zQ Tryd.prog [.tmp 2] r []) (zO args [])) : PC Tryd.prog 36 args r :=
  zJ (X := ab8) mixed Tryd.func36 (c := abd) (by kernel_rfl) (by kernel_rfl) (rs := [.tmp 2]) (by kernel_rfl) (by kernel_rfl) (by rw [ha]; decide) h
noncomputable def ZC : Code := (Tryd.f70.body).getD .skip
def yV : List (Nat × Nf) := []
def yO : List (Nat × List Nat) := []
def yZ : Nat → Ann
  | 0 => ⟨[0], [5], [], [], [5]⟩
  | 1 => ⟨[0, 4], [5], [], [], [5]⟩
  | 2 => ⟨[2], [5], [], [], [5]⟩
  | 3 => ⟨[2], [5], [], [], [5]⟩
  | _ => ⟨[], [], [], [], []⟩
noncomputable abbrev ZB : Cx := ⟨Tryd.prog, ⟨id, yV, yO⟩, yZ⟩
theorem Kb {args : List PV} {r : PV} (ha : args.length = 1) (h : awp ZB ZC (zQ Tryd.prog [.tmp 2] r []) (zO args [])) : PC Tryd.prog 70 args r :=
  zJ (X := ZB) mixed Tryd.func70 (c := ZC) (by kernel_rfl) (by kernel_rfl) (rs := [.tmp 2]) (by kernel_rfl) (by kernel_rfl) (by rw [ha]; decide) h
noncomputable def KH : Code := (Tryd.f100.body).getD .skip
def WQ : List (Nat × Nf) := []
def Wu : List (Nat × List Nat) := []
def WA : Nat → Ann
  | 0 => ⟨[0], [5], [], [], [5]⟩
  | 1 => ⟨[0, 4], [5], [], [], [5]⟩
  | 2 => ⟨[2], [5], [], [], [5]⟩
  | 3 => ⟨[2], [5], [], [], [5]⟩
  | _ => ⟨[], [], [], [], []⟩
noncomputable abbrev KI : Cx := ⟨Tryd.prog, ⟨id, WQ, Wu⟩, WA⟩
theorem Js {args : List PV} {r : PV} (ha : args.length = 1) (h : awp KI KH (zQ Tryd.prog [.tmp 2] r []) (zO args [])) : PC Tryd.prog 100 args r :=
  zJ (X := KI) mixed Tryd.func100 (c := KH) (by kernel_rfl) (by kernel_rfl) (rs := [.tmp 2]) (by kernel_rfl) (by kernel_rfl) (by rw [ha]; decide) h
noncomputable def Y6 : Code := (Tryd.f75.body).getD .skip
def XW : List (Nat × Nf) := [(28, [none, none, some 1, some 2, some 5]), (38, [none, none, some 1, some 2, some 5])]
def XE : List (Nat × List Nat) := []
def XX : Nat → Ann
  | 0 => ⟨[1, 2, 4], [2, 4], [.nrm 4 [none, none, some 1, some 2, some 5]], [], [2, 4]⟩
  | 1 => ⟨[2, 4, 8, 9, 10], [2, 4], [], [], [2, 4]⟩
  | 2 => ⟨[2, 4, 8, 9, 10, 11], [2, 4], [], [], [2, 4]⟩
  | 3 => ⟨[2, 4, 7, 8, 9, 10], [2, 4], [], [], [2, 4]⟩
  | 4 => ⟨[2, 4, 7, 8, 9, 10, 27], [2, 4], [], [], [2, 4]⟩
  | 5 => ⟨[4, 5], [4], [], [], [4]⟩
  | 6 => ⟨[2, 4, 8, 9, 10], [2, 4], [], [], [2, 4]⟩
  | 7 => ⟨[2, 4, 8, 9, 10], [2, 4], [], [], [2, 4]⟩
  | 8 => ⟨[2, 4, 37], [2, 4], [], [], [2, 4]⟩
  | 9 => ⟨[4, 5], [4], [], [], [4]⟩
  | 10 => ⟨[4, 5], [4], [], [], [4]⟩
  | _ => ⟨[], [], [], [], []⟩
noncomputable abbrev Y3 : Cx := ⟨Tryd.prog, ⟨id, XW, XE⟩, XX⟩
theorem ab7 {args : List PV} {r : PV} (ha : args.length = 2) (h : awp Y3 Y6 (zQ Tryd.prog [.cell 4 28, .tmp 5] r []) (zO args [])) : PC Tryd.prog 75 args r :=
  zJ (X := Y3) mixed Tryd.func75 (c := Y6) (by kernel_rfl) (by kernel_rfl) (rs := [.cell 4 28, .tmp 5]) (by kernel_rfl) (by kernel_rfl) (by rw [ha]; decide) h
noncomputable def JO : Code := (Tryd.f97.body).getD .skip
def VO : List (Nat × Nf) := [(24, [some 1, none, none]), (59, [some 1, none, none]), (65, [some 1, none, none]), (71, [some 1, none, none])]
def VG : List (Nat × List Nat) := []
def VM : Nat → Ann
  | 0 => ⟨[1, 2, 4], [2, 4], [.nrm 4 [some 1, none, none]], [], [2, 4]⟩
  | 1 => ⟨[1, 2, 4, 23], [2, 4], [], [], [2, 4]⟩
  | 2 => ⟨[4, 5], [4], [], [], [4]⟩
  | 3 => ⟨[1, 2, 4, 6], [2, 4, 6, 342], [.Vk 6 0 342 1], [], [2, 4, 6, 342]⟩
  | 4 => ⟨[1, 2, 4, 6, 26, 27, 28], [2, 4, 6, 342], [], [], [2, 4, 6, 342]⟩
  | 5 => ⟨[1, 2, 4, 6, 26, 27, 28, 29], [2, 4, 6, 342], [], [], [2, 4, 6, 342]⟩
  | 6 => ⟨[1, 2, 4, 6, 7, 8, 26, 27, 28], [2, 4, 6, 8, 342], [], [], [2, 4, 6, 8, 342]⟩
  | 7 => ⟨[1, 2, 4, 6, 7, 8, 9, 26, 27, 28], [2, 4, 6, 8, 342], [], [], [2, 4, 6, 8, 342]⟩
  | 8 => ⟨[1, 2, 4, 6, 8], [2, 4, 6, 8, 342], [], [], [2, 4, 6, 8, 342]⟩
  | 9 => ⟨[1, 2, 4, 6], [2, 4, 6, 342], [], [], [2, 4, 6, 342]⟩
  | 10 => ⟨[1, 2, 4, 6, 7, 8, 9, 26, 27, 28, 44], [2, 4, 6, 8, 342], [], [], [2, 4, 6, 8, 342]⟩
  | 11 => ⟨[1, 2, 4, 6, 26, 27, 28], [2, 4, 6, 342], [], [], [2, 4, 6, 342]⟩
  | 12 => ⟨[1, 2, 4, 6, 7, 8, 51], [2, 4, 6, 8, 342], [], [], [2, 4, 6, 8, 342]⟩
  | 13 => ⟨[4, 6], [4, 6, 342], [], [], [4, 6, 342]⟩
  | 14 => ⟨[4, 5], [4], [], [], [4]⟩
  | 15 => ⟨[1, 2, 4, 6, 7, 8, 60], [2, 4, 6, 8, 342], [], [], [2, 4, 6, 8, 342]⟩
  | 16 => ⟨[4, 6], [4, 6, 342], [], [], [4, 6, 342]⟩
  | 17 => ⟨[4, 5], [4], [], [], [4]⟩
  | 18 => ⟨[1, 2, 4, 6, 26, 27, 28], [2, 4, 6, 342], [], [], [2, 4, 6, 342]⟩
  | 19 => ⟨[4, 6], [4, 6, 342], [], [], [4, 6, 342]⟩
  | 20 => ⟨[4, 5], [4], [], [], [4]⟩
  | _ => ⟨[], [], [], [], []⟩
noncomputable abbrev JI : Cx := ⟨Tryd.prog, ⟨id, VO, VG⟩, VM⟩
theorem Yq {args : List PV} {r : PV} (ha : args.length = 2) (h : awp JI JO (zQ Tryd.prog [.cell 4 149, .tmp 5] r []) (zO args [])) : PC Tryd.prog 97 args r :=
  zJ (X := JI) mixed Tryd.func97 (c := JO) (by kernel_rfl) (by kernel_rfl) (rs := [.cell 4 149, .tmp 5]) (by kernel_rfl) (by kernel_rfl) (by rw [ha]; decide) h
noncomputable def YB : Code := (Tryd.f74.body).getD .skip
def XB : List (Nat × Nf) := []
def XH : List (Nat × List Nat) := [(24, [6]), (25, [6]), (26, []), (27, [6]), (28, [6]), (30, [26, 29])]
def XY : Nat → Ann
  | 0 => ⟨[1, 2], [2], [], [], [2]⟩
  | 1 => ⟨[1, 2, 10], [2], [], [], [2]⟩
  | 2 => ⟨[4, 5], [], [.nrm 4 [some 1]], [], []⟩
  | 3 => ⟨[2, 6, 7], [2, 6], [], [], [2, 6]⟩
  | 4 => ⟨[2, 6, 23], [2, 6], [], [], [2, 6]⟩
  | 5 => ⟨[4, 5], [], [.nrm 4 [some 1]], [], []⟩
  | 6 => ⟨[2, 8], [2, 26], [], [.ren 26 8], [2, 8, 26]⟩
  | 7 => ⟨[7, 8], [8], [], [], [8]⟩
  | 8 => ⟨[4, 5], [8], [], [.ren 8 4], [4, 8]⟩
  | _ => ⟨[], [], [], [], []⟩
noncomputable abbrev YU : Cx := ⟨Tryd.prog, ⟨id, XB, XH⟩, XY⟩
theorem aaW {args : List PV} {r : PV} (ha : args.length = 2) (h : awp YU YB (zQ Tryd.prog [.tmp 4, .tmp 5] r []) (zO args [])) : PC Tryd.prog 74 args r :=
  zJ (X := YU) mixed Tryd.func74 (c := YB) (by kernel_rfl) (by kernel_rfl) (rs := [.tmp 4, .tmp 5]) (by kernel_rfl) (by kernel_rfl) (by rw [ha]; decide) h
noncomputable def XR : Code := (Tryd.f77.body).getD .skip
def JM : List (Nat × Nf) := []
def JL : List (Nat × List Nat) := []
def JJ : Nat → Ann
  | 0 => ⟨[1, 2], [2, 1000], [], [], [2, 1000]⟩
  | 1 => ⟨[3], [1000], [], [], [1000]⟩
  | _ => ⟨[], [], [], [], []⟩
noncomputable abbrev XQ : Cx := ⟨Tryd.prog, ⟨id, JM, JL⟩, JJ⟩
theorem aaP {args : List PV} {es es' : List Ent} {r : PV} (ha : args.length = 2) (hl : es'.length = es.length) (he : (es'.all fun e => e.qQ es.length) = true) (h : awp XQ XR (zQ Tryd.prog [.tmp 3] r es') (zO args es)) : BC Tryd.prog 77 args es r es' :=
  yf (X := XQ) mixed Tryd.func77 (c := XR) (by kernel_rfl) (by kernel_rfl) (rs := [.tmp 3]) (by kernel_rfl) (by kernel_rfl) (by rw [ha]; decide) hl (fun e h => List.all_eq_true.1 he e h) h
noncomputable def j4 : Code := (Tryd.f76.body).getD .skip
def jQ : List (Nat × Nf) := []
def jV : List (Nat × List Nat) := []
def jO : Nat → Ann
  | 0 => ⟨[0, 1], [1000], [], [], [1000]⟩
  | 1 => ⟨[0, 1, 7, 8], [1000], [], [], [1000]⟩
  | 2 => ⟨[0, 1, 7, 8, 9], [1000], [], [], [1000]⟩
  | 3 => ⟨[0, 1, 5, 7, 8], [1000], [], [], [1000]⟩
  | 4 => ⟨[0, 1, 5, 7, 8, 16], [1000], [], [], [1000]⟩
  | 5 => ⟨[4], [1000], [], [], [1000]⟩
  | 6 => ⟨[0, 1, 7, 8], [1000], [], [], [1000]⟩
  | 7 => ⟨[4], [1000], [], [], [1000]⟩
  | _ => ⟨[], [], [], [], []⟩
noncomputable abbrev jY : Cx := ⟨Tryd.prog, ⟨id, jQ, jV⟩, jO⟩
theorem ZL {args : List PV} {es es' : List Ent} {r : PV} (ha : args.length = 2) (hl : es'.length = es.length) (he : (es'.all fun e => e.qQ es.length) = true) (h : awp jY j4 (zQ Tryd.prog [.tmp 4] r es') (zO args es)) : BC Tryd.prog 76 args es r es' :=
  yf (X := jY) mixed Tryd.func76 (c := j4) (by kernel_rfl) (by kernel_rfl) (rs := [.tmp 4]) (by kernel_rfl) (by kernel_rfl) (by rw [ha]; decide) hl (fun e h => List.all_eq_true.1 he e h) h
noncomputable def ZI : Code := (Tryd.f71.body).getD .skip
def yQ : List (Nat × Nf) := []
def yS : List (Nat × List Nat) := []
def yH : Nat → Ann
  | 0 => ⟨[0], [5], [], [], [5]⟩
  | 1 => ⟨[0, 4], [5], [], [], [5]⟩
  | 2 => ⟨[2], [5], [], [], [5]⟩
  | 3 => ⟨[2], [5], [], [], [5]⟩
  | _ => ⟨[], [], [], [], []⟩
noncomputable abbrev Zv : Cx := ⟨Tryd.prog, ⟨id, yQ, yS⟩, yH⟩
theorem WT {args : List PV} {r : PV} (ha : args.length = 1) (h : awp Zv ZI (zQ Tryd.prog [.tmp 2] r []) (zO args [])) : PC Tryd.prog 71 args r :=
  zJ (X := Zv) mixed Tryd.func71 (c := ZI) (by kernel_rfl) (by kernel_rfl) (rs := [.tmp 2]) (by kernel_rfl) (by kernel_rfl) (by rw [ha]; decide) h
noncomputable def abE : Code := (Tryd.f78.body).getD .skip
def aal : List (Nat × Nf) := [(18, [none, none, some 1, some 2, some 5]), (48, [none, none, none, none, some 5])]
def Yx : List (Nat × List Nat) := []
def YT : Nat → Ann
  | 0 => ⟨[1, 3, 5, 6], [3, 5, 6], [.nrm 6 [none, none, some 1, some 2, some 5]], [], [3, 5, 6]⟩
  | 1 => ⟨[1, 3, 5, 6, 9], [3, 5, 6], [], [], [3, 5, 6]⟩
  | 2 => ⟨[1, 3, 5, 6, 9, 17], [3, 5, 6], [], [], [3, 5, 6]⟩
  | 3 => ⟨[6, 7], [6], [], [], [6]⟩
  | 4 => ⟨[1, 3, 5, 6, 22], [3, 5, 6], [], [], [3, 5, 6]⟩
  | 5 => ⟨[6, 7], [6], [], [], [6]⟩
  | 6 => ⟨[1, 3, 5, 6], [3, 5, 6, 26], [], [.ren 26 325], [3, 5, 6, 26, 325]⟩
  | 7 => ⟨[3, 6], [3, 6, 325], [], [], [3, 6, 325]⟩
  | 8 => ⟨[6, 7], [6], [], [], [6]⟩
  | _ => ⟨[], [], [], [], []⟩
noncomputable abbrev ab1 : Cx := ⟨Tryd.prog, ⟨id, aal, Yx⟩, YT⟩
theorem acW {args : List PV} {r : PV} (ha : args.length = 3) (h : awp ab1 abE (zQ Tryd.prog [.cell 6 28, .tmp 7] r []) (zO args [])) : PC Tryd.prog 78 args r :=
  zJ (X := ab1) mixed Tryd.func78 (c := abE) (by kernel_rfl) (by kernel_rfl) (rs := [.cell 6 28, .tmp 7]) (by kernel_rfl) (by kernel_rfl) (by rw [ha]; decide) h
noncomputable def afF : Code := (Tryd.f46.body).getD .skip
def ad8 : List (Nat × Nf) := [(24, [none, none, some 1, some 2, some 5]), (37, [none, none, some 1, some 2, some 5]), (58, [none, none, none, some 2, none])]
def adR : List (Nat × List Nat) := []
def ad7 : Nat → Ann
  | 0 => ⟨[2, 3, 4], [2, 3, 4], [.nrm 4 [none, none, some 1, some 2, some 5]], [], [2, 3, 4]⟩
  | 1 => ⟨[2, 3, 4, 7, 8], [2, 3, 4], [], [], [2, 3, 4]⟩
  | 2 => ⟨[2, 3, 4, 7, 23], [2, 3, 4], [], [], [2, 3, 4]⟩
  | 3 => ⟨[4, 5, 6], [4], [], [], [4]⟩
  | 4 => ⟨[2, 3, 4, 7, 9], [2, 3, 4, 9], [], [], [2, 3, 4, 9]⟩
  | 5 => ⟨[2, 3, 4, 7, 9, 11], [2, 3, 4, 9], [], [], [2, 3, 4, 9]⟩
  | 6 => ⟨[2, 3, 4, 7, 9, 11, 36], [2, 3, 4, 9], [], [], [2, 3, 4, 9]⟩
  | 7 => ⟨[4, 5, 6], [4], [], [], [4]⟩
  | 8 => ⟨[2, 3, 4, 7, 9, 11, 12], [2, 3, 4, 9], [], [], [2, 3, 4, 9]⟩
  | 9 => ⟨[2, 3, 4, 7, 9, 11, 12], [2, 3, 4, 9, 46], [], [.ren 46 366], [2, 3, 4, 9, 46, 366]⟩
  | 10 => ⟨[2, 4, 7, 9, 12], [2, 4, 9, 366], [], [], [2, 4, 9, 366]⟩
  | 11 => ⟨[4, 12, 13, 14], [4, 13], [], [], [4, 13]⟩
  | 12 => ⟨[4, 5, 6], [4], [], [], [4]⟩
  | _ => ⟨[], [], [], [], []⟩
noncomputable abbrev agh : Cx := ⟨Tryd.prog, ⟨id, ad8, adR⟩, ad7⟩
theorem afk {args : List PV} {r : PV} (ha : args.length = 2) (h : awp agh afF (zQ Tryd.prog [.cell 4 28, .tmp 5, .tmp 6] r []) (zO args [])) : PC Tryd.prog 46 args r :=
  zJ (X := agh) mixed Tryd.func46 (c := afF) (by kernel_rfl) (by kernel_rfl) (rs := [.cell 4 28, .tmp 5, .tmp 6]) (by kernel_rfl) (by kernel_rfl) (by rw [ha]; decide) h
noncomputable def Qx : Code := (Tryd.f113.body).getD .skip
def Qi : List (Nat × Nf) := []
def ZX : List (Nat × List Nat) := []
def Qm : Nat → Ann
  | 0 => ⟨[0, 1, 2, 6], [1000, 1001], [], [], [1000, 1001]⟩
  | 1 => ⟨[0, 1, 2, 6, 35], [1000, 1001], [], [], [1000, 1001]⟩
  | 2 => ⟨[], [1000, 1001], [], [], [1000, 1001]⟩
  | 3 => ⟨[], [1000, 1001], [], [], [1000, 1001]⟩
  | _ => ⟨[], [], [], [], []⟩
noncomputable abbrev Qt : Cx := ⟨Tryd.prog, ⟨id, Qi, ZX⟩, Qm⟩
theorem KR {args : List PV} {es es' : List Ent} {r : PV} (ha : args.length = 3) (hl : es'.length = es.length) (he : (es'.all fun e => e.qQ es.length) = true) (h : awp Qt Qx (zQ Tryd.prog [] r es') (zO args es)) : BC Tryd.prog 113 args es r es' :=
  yf (X := Qt) mixed Tryd.func113 (c := Qx) (by kernel_rfl) (by kernel_rfl) (rs := []) (by kernel_rfl) (by kernel_rfl) (by rw [ha]; decide) hl (fun e h => List.all_eq_true.1 he e h) h
noncomputable def Zp : Code := (Tryd.f114.body).getD .skip
def yX : List (Nat × Nf) := []
def y7 : List (Nat × List Nat) := []
def yI : Nat → Ann
  | 0 => ⟨[0, 1, 2, 3, 4, 8], [8, 1000, 1001], [.nrm 8 [none, none, some 1, some 2, some 5]], [], [8, 1000, 1001]⟩
  | 1 => ⟨[8], [8, 1000, 1001], [.nrm 8 [none, none, none, some 2, some 5]], [], [8, 1000, 1001]⟩
  | _ => ⟨[], [], [], [], []⟩
noncomputable abbrev Zl : Cx := ⟨Tryd.prog, ⟨id, yX, y7⟩, yI⟩
theorem WU {args : List PV} {es es' : List Ent} {r : PV} (ha : args.length = 5) (hl : es'.length = es.length) (he : (es'.all fun e => e.qQ es.length) = true) (h : awp Zl Zp (zQ Tryd.prog [.cell 8 28] r es') (zO args es)) : BC Tryd.prog 114 args es r es' :=
  yf (X := Zl) mixed Tryd.func114 (c := Zp) (by kernel_rfl) (by kernel_rfl) (rs := [.cell 8 28]) (by kernel_rfl) (by kernel_rfl) (by rw [ha]; decide) hl (fun e h => List.all_eq_true.1 he e h) h
noncomputable def Qv : Code := (Tryd.f101.body).getD .skip
def ZY : List (Nat × Nf) := []
def ZN : List (Nat × List Nat) := [(69, [4]), (70, [4]), (71, [4, 7, 999999]), (76, [4, 7, 999999]), (79, [7]), (81, [4]), (82, [4]), (83, [4, 7, 999999])]
def Qg : Nat → Ann
  | 0 => ⟨[0, 2, 4], [4, 1000, 1001], [], [], [4, 1000, 1001]⟩
  | 1 => ⟨[0, 2, 4, 7], [4, 7, 1000, 1001], [], [], [4, 7, 1000, 1001]⟩
  | 2 => ⟨[0, 2, 4, 7, 8], [4, 7, 1000, 1001], [], [], [4, 7, 1000, 1001]⟩
  | 3 => ⟨[0, 2, 4, 7, 8, 9], [4, 7, 1000, 1001], [], [], [4, 7, 1000, 1001]⟩
  | 4 => ⟨[0, 2, 4, 7, 8, 9, 10, 11], [4, 7, 1000, 1001], [], [], [4, 7, 1000, 1001]⟩
  | 5 => ⟨[0, 2, 4, 7, 8, 9, 10, 55], [4, 7, 1000, 1001], [], [], [4, 7, 1000, 1001]⟩
  | 6 => ⟨[6], [57, 1000, 1001], [], [.ren 57 6], [6, 57, 1000, 1001]⟩
  | 7 => ⟨[4, 7, 8, 9, 10], [4, 7, 1000, 1001], [], [], [4, 7, 1000, 1001]⟩
  | 8 => ⟨[4, 7, 8, 9, 10, 12], [4, 7, 1000, 1001], [], [], [4, 7, 1000, 1001]⟩
  | 9 => ⟨[6], [84, 1000, 1001], [], [.ren 84 6], [6, 84, 1000, 1001]⟩
  | _ => ⟨[], [], [], [], []⟩
noncomputable abbrev Qs : Cx := ⟨Tryd.prog, ⟨id, ZY, ZN⟩, Qg⟩
theorem KW {args : List PV} {es es' : List Ent} {r : PV} (ha : args.length = 3) (hl : es'.length = es.length) (he : (es'.all fun e => e.qQ es.length) = true) (h : awp Qs Qv (zQ Tryd.prog [.tmp 6] r es') (zO args es)) : BC Tryd.prog 101 args es r es' :=
  yf (X := Qs) mixed Tryd.func101 (c := Qv) (by kernel_rfl) (by kernel_rfl) (rs := [.tmp 6]) (by kernel_rfl) (by kernel_rfl) (by rw [ha]; decide) hl (fun e h => List.all_eq_true.1 he e h) h
noncomputable def adX : Code := (Tryd.f82.body).getD .skip
def aa8 : List (Nat × Nf) := []
def abF : List (Nat × List Nat) := []
def acr : Nat → Ann
  | 0 => ⟨[0], [], [], [], []⟩
  | 1 => ⟨[0, 3], [3], [.thaw 3 3 5], [], [3]⟩
  | 2 => ⟨[3, 7, 8, 9], [3], [], [], [3]⟩
  | 3 => ⟨[3, 7, 8, 9, 10], [3], [], [], [3]⟩
  | 4 => ⟨[3, 5, 7, 8, 9], [3, 5], [], [], [3, 5]⟩
  | 5 => ⟨[3, 5, 6, 7, 8, 9], [3, 5], [], [], [3, 5]⟩
  | 6 => ⟨[3, 7, 8, 9], [3], [], [], [3]⟩
  | 7 => ⟨[3, 5, 6, 7, 8, 9, 20], [3, 5], [], [], [3, 5]⟩
  | 8 => ⟨[3, 5, 6, 7, 8, 9, 28], [3, 5], [], [], [3, 5]⟩
  | 9 => ⟨[3, 5, 6, 7, 8, 9], [3, 5], [], [], [3, 5]⟩
  | 10 => ⟨[3, 7, 8, 9], [3], [], [], [3]⟩
  | 11 => ⟨[3, 7, 8, 9], [3], [], [], [3]⟩
  | 12 => ⟨[2], [3], [], [.ren 3 2], [2, 3]⟩
  | _ => ⟨[], [], [], [], []⟩
noncomputable abbrev ad5 : Cx := ⟨Tryd.prog, ⟨id, aa8, abF⟩, acr⟩
theorem aee {args : List PV} {r : PV} (ha : args.length = 1) (h : awp ad5 adX (zQ Tryd.prog [.tmp 2] r []) (zO args [])) : PC Tryd.prog 82 args r :=
  zJ (X := ad5) mixed Tryd.func82 (c := adX) (by kernel_rfl) (by kernel_rfl) (rs := [.tmp 2]) (by kernel_rfl) (by kernel_rfl) (by rw [ha]; decide) h
noncomputable def Qu : Code := (Tryd.f79.body).getD .skip
def ZQ : List (Nat × Nf) := []
def Qf : List (Nat × List Nat) := []
def ZT : Nat → Ann
  | 0 => ⟨[0, 1, 2], [1000, 1001], [], [], [1000, 1001]⟩
  | 1 => ⟨[0, 1, 2, 7], [7, 1000, 1001], [.thaw 7 7 5], [], [7, 1000, 1001]⟩
  | 2 => ⟨[0, 2, 7, 11, 12, 13], [7, 1000, 1001], [], [], [7, 1000, 1001]⟩
  | 3 => ⟨[0, 2, 7, 11, 12, 13, 14], [7, 1000, 1001], [], [], [7, 1000, 1001]⟩
  | 4 => ⟨[0, 2, 7, 9, 11, 12, 13], [7, 9, 1000, 1001], [], [], [7, 9, 1000, 1001]⟩
  | 5 => ⟨[0, 2, 7, 9, 10, 11, 12, 13], [7, 9, 1000, 1001], [], [], [7, 9, 1000, 1001]⟩
  | 6 => ⟨[0, 2, 7, 9, 10, 11, 12, 13, 21], [7, 9, 1000, 1001], [], [], [7, 9, 1000, 1001]⟩
  | 7 => ⟨[0, 2, 7, 10, 11, 12, 13], [7, 1000, 1001], [], [], [7, 1000, 1001]⟩
  | 8 => ⟨[0, 2, 7, 9, 10, 11, 12, 13], [7, 9, 1000, 1001], [], [], [7, 9, 1000, 1001]⟩
  | 9 => ⟨[0, 2, 7, 10, 11, 12, 13], [7, 1000, 1001], [], [], [7, 1000, 1001]⟩
  | 10 => ⟨[0, 2, 7, 11, 12, 13], [7, 1000, 1001], [], [], [7, 1000, 1001]⟩
  | 11 => ⟨[0, 2, 7, 11, 12, 13], [7, 1000, 1001], [], [], [7, 1000, 1001]⟩
  | 12 => ⟨[6], [1000, 1001], [], [], [1000, 1001]⟩
  | _ => ⟨[], [], [], [], []⟩
noncomputable abbrev Qz : Cx := ⟨Tryd.prog, ⟨id, ZQ, Qf⟩, ZT⟩
theorem KT {args : List PV} {es es' : List Ent} {r : PV} (ha : args.length = 3) (hl : es'.length = es.length) (he : (es'.all fun e => e.qQ es.length) = true) (h : awp Qz Qu (zQ Tryd.prog [.tmp 6] r es') (zO args es)) : BC Tryd.prog 79 args es r es' :=
  yf (X := Qz) mixed Tryd.func79 (c := Qu) (by kernel_rfl) (by kernel_rfl) (rs := [.tmp 6]) (by kernel_rfl) (by kernel_rfl) (by rw [ha]; decide) hl (fun e h => List.all_eq_true.1 he e h) h
noncomputable def ab9 : Code := (Tryd.f47.body).getD .skip
def YN : List (Nat × Nf) := [(14, [none, none, some 1, some 2, some 5])]
def aak : List (Nat × List Nat) := [(23, [2]), (25, [17]), (26, [17]), (27, [17]), (500004, [4])]
def aad : Nat → Ann
  | 0 => ⟨[2, 3, 4], [2, 3, 4], [.nrm 4 [none, none, some 1, some 2, some 5]], [], [2, 3, 4]⟩
  | 1 => ⟨[2, 3, 4, 13], [2, 3, 4], [], [], [2, 3, 4]⟩
  | 2 => ⟨[4, 5, 6], [4], [.nrm 5 [some 3]], [], [4]⟩
  | 3 => ⟨[2, 4, 7], [2, 4, 17, 425], [.Vk 17 6 425 3], [], [2, 4, 17, 425]⟩
  | 4 => ⟨[2, 4, 7], [2, 4, 17, 425], [], [], [2, 4, 17, 425]⟩
  | 5 => ⟨[4, 5, 6], [4, 425], [], [.ren 425 5], [4, 5, 425]⟩
  | _ => ⟨[], [], [], [], []⟩
noncomputable abbrev abn : Cx := ⟨Tryd.prog, ⟨id, YN, aak⟩, aad⟩
theorem acI {args : List PV} {r : PV} (ha : args.length = 2) (h : awp abn ab9 (zQ Tryd.prog [.cell 4 28, .tmp 5, .tmp 6] r []) (zO args [])) : PC Tryd.prog 47 args r :=
  zJ (X := abn) mixed Tryd.func47 (c := ab9) (by kernel_rfl) (by kernel_rfl) (rs := [.cell 4 28, .tmp 5, .tmp 6]) (by kernel_rfl) (by kernel_rfl) (by rw [ha]; decide) h
noncomputable def aa6 : Code := (Tryd.f48.body).getD .skip
def aan : List (Nat × Nf) := [(26, [none, none, some 1, some 2, none])]
def aaa : List (Nat × List Nat) := []
def YZ : Nat → Ann
  | 0 => ⟨[1], [1], [], [], [1]⟩
  | 1 => ⟨[1, 3], [1], [], [], [1]⟩
  | 2 => ⟨[1, 3, 21], [1], [], [], [1]⟩
  | 3 => ⟨[1, 3, 21, 22], [1], [], [], [1]⟩
  | 4 => ⟨[1, 3, 4], [1], [], [], [1]⟩
  | 5 => ⟨[2], [], [], [], []⟩
  | 6 => ⟨[1, 3, 21, 41], [1], [], [], [1]⟩
  | 7 => ⟨[2], [], [], [], []⟩
  | 8 => ⟨[1, 3, 21, 72], [1], [], [], [1]⟩
  | 9 => ⟨[1, 3, 72], [1], [], [], [1]⟩
  | 10 => ⟨[2], [], [], [], []⟩
  | 11 => ⟨[2], [], [], [], []⟩
  | _ => ⟨[], [], [], [], []⟩
noncomputable abbrev abr : Cx := ⟨Tryd.prog, ⟨id, aan, aaa⟩, YZ⟩
theorem ado {args : List PV} {r : PV} (ha : args.length = 1) (h : awp abr aa6 (zQ Tryd.prog [.tmp 2] r []) (zO args [])) : PC Tryd.prog 48 args r :=
  zJ (X := abr) mixed Tryd.func48 (c := aa6) (by kernel_rfl) (by kernel_rfl) (rs := [.tmp 2]) (by kernel_rfl) (by kernel_rfl) (by rw [ha]; decide) h
noncomputable def Vl : Code := (Tryd.f96.body).getD .skip
def Km : List (Nat × Nf) := [(4, [some 1, none, none, some 1, some 2, some 5, none, none])]
def KM : List (Nat × List Nat) := []
def Kv : Nat → Ann
  | 0 => ⟨[1, 3], [1000, 1001], [], [], [1000, 1001]⟩
  | 1 => ⟨[], [1000, 1001], [], [], [1000, 1001]⟩
  | _ => ⟨[], [], [], [], []⟩
noncomputable abbrev K7 : Cx := ⟨Tryd.prog, ⟨id, Km, KM⟩, Kv⟩
theorem JP {args : List PV} {es es' : List Ent} {r : PV} (ha : args.length = 2) (hl : es'.length = es.length) (he : (es'.all fun e => e.qQ es.length) = true) (h : awp K7 Vl (zQ Tryd.prog [] r es') (zO args es)) : BD Tryd.prog 96 args es r es' :=
  anz (X := K7) mixed Tryd.func96 (c := Vl) (by kernel_rfl) (rs := []) (by kernel_rfl) (by kernel_rfl) (by rw [ha]; decide) hl (fun e h => List.all_eq_true.1 he e h) h
noncomputable def KN : Code := (Tryd.f98.body).getD .skip
def WB : List (Nat × Nf) := []
def WO : List (Nat × List Nat) := []
def WI : Nat → Ann
  | 0 => ⟨[0, 1], [], [], [], []⟩
  | 1 => ⟨[0, 1, 10], [], [], [], []⟩
  | 2 => ⟨[4], [], [], [], []⟩
  | 3 => ⟨[0, 1, 12, 13], [], [], [], []⟩
  | 4 => ⟨[0, 1, 12, 13, 14], [], [], [], []⟩
  | 5 => ⟨[0, 1, 5, 12, 13], [], [], [], []⟩
  | 6 => ⟨[0, 1, 12, 13, 24], [], [], [], []⟩
  | 7 => ⟨[4], [], [], [], []⟩
  | 8 => ⟨[0, 1, 12, 13], [], [], [], []⟩
  | 9 => ⟨[4], [], [], [], []⟩
  | _ => ⟨[], [], [], [], []⟩
noncomputable abbrev KJ : Cx := ⟨Tryd.prog, ⟨id, WB, WO⟩, WI⟩
theorem Ji {args : List PV} {r : PV} (ha : args.length = 2) (h : awp KJ KN (zQ Tryd.prog [.tmp 4] r []) (zO args [])) : PC Tryd.prog 98 args r :=
  zJ (X := KJ) mixed Tryd.func98 (c := KN) (by kernel_rfl) (by kernel_rfl) (rs := [.tmp 4]) (by kernel_rfl) (by kernel_rfl) (by rw [ha]; decide) h
noncomputable def aao : Code := (Tryd.f99.body).getD .skip
def Xk : List (Nat × Nf) := []
def Xw : List (Nat × List Nat) := []
def Xa : Nat → Ann
  | 0 => ⟨[1, 2], [2], [], [], [2]⟩
  | 1 => ⟨[1, 2, 7], [2], [], [], [2]⟩
  | 2 => ⟨[1, 2, 7, 18], [2], [], [], [2]⟩
  | 3 => ⟨[4, 5], [], [], [], []⟩
  | 4 => ⟨[1, 2, 8], [2], [], [], [2]⟩
  | 5 => ⟨[2, 8, 20, 21, 22], [2], [], [], [2]⟩
  | 6 => ⟨[2, 8, 20, 21, 22, 23], [2], [], [], [2]⟩
  | 7 => ⟨[2, 8, 10, 20, 21, 22], [2], [], [], [2]⟩
  | 8 => ⟨[2, 8, 10, 20, 21, 22], [2], [], [], [2]⟩
  | 9 => ⟨[2, 8, 20, 21, 22], [2], [], [], [2]⟩
  | 10 => ⟨[2, 8, 20, 21, 22], [2], [], [], [2]⟩
  | 11 => ⟨[4, 5], [], [], [], []⟩
  | _ => ⟨[], [], [], [], []⟩
noncomputable abbrev Y4 : Cx := ⟨Tryd.prog, ⟨id, Xk, Xw⟩, Xa⟩
theorem ace {args : List PV} {r : PV} (ha : args.length = 2) (h : awp Y4 aao (zQ Tryd.prog [.tmp 4, .tmp 5] r []) (zO args [])) : PC Tryd.prog 99 args r :=
  zJ (X := Y4) mixed Tryd.func99 (c := aao) (by kernel_rfl) (by kernel_rfl) (rs := [.tmp 4, .tmp 5]) (by kernel_rfl) (by kernel_rfl) (by rw [ha]; decide) h
def XT : List (Nat × Nf) := []
def Xf : List (Nat × List Nat) := [(31, [1001]), (32, [1000]), (42, [1001]), (43, [1000]), (71, [8]), (72, [8]), (73, [12]), (81, [1000]), (500006, [1001]), (500007, [1000])]
def XL : Nat → Ann
  | 0 => ⟨[1, 2, 3, 6, 7], [3, 6, 7], [.nrm 6 [some 1, none, none, some 1, some 2, some 5, none, none]], [], [3, 6, 7]⟩
  | 1 => ⟨[1, 2, 3, 6, 7], [], [], [], []⟩
  | 2 => ⟨[1, 2, 3, 6, 7, 21], [3, 1000, 1001], [], [], [3, 1000, 1001]⟩
  | 3 => ⟨[6, 7], [1000, 1001], [], [], [1000, 1001]⟩
  | 4 => ⟨[1, 2, 3, 6, 7, 8], [3, 8, 1000, 1001], [], [], [3, 8, 1000, 1001]⟩
  | 5 => ⟨[1, 2, 3, 6, 7, 8, 30], [3, 8, 1000, 1001], [], [], [3, 8, 1000, 1001]⟩
  | 6 => ⟨[6, 7], [1000, 1001], [], [], [1000, 1001]⟩
  | 7 => ⟨[1, 2, 3, 6, 7, 8, 9], [3, 8, 9, 1000, 1001], [], [], [3, 8, 9, 1000, 1001]⟩
  | 8 => ⟨[1, 2, 3, 6, 7, 8, 9, 39], [3, 8, 9, 1000, 1001], [], [], [3, 8, 9, 1000, 1001]⟩
  | 9 => ⟨[6, 7], [1000, 1001], [], [], [1000, 1001]⟩
  | 10 => ⟨[1, 2, 3, 6, 7, 8, 9, 44], [3, 8, 9, 1000, 1001], [], [], [3, 8, 9, 1000, 1001]⟩
  | 11 => ⟨[6, 7], [1000, 1001], [], [], [1000, 1001]⟩
  | 12 => ⟨[1, 2, 3, 6, 7, 8, 49], [3, 8, 1000, 1001], [], [], [3, 8, 1000, 1001]⟩
  | 13 => ⟨[6, 7], [1000, 1001], [], [], [1000, 1001]⟩
  | 14 => ⟨[1, 2, 3, 6, 7, 8, 10], [3, 8, 1000, 1001], [], [], [3, 8, 1000, 1001]⟩
  | 15 => ⟨[1, 2, 6, 7, 8, 10, 12], [8, 12, 1000, 1001], [], [], [8, 12, 1000, 1001]⟩
  | 16 => ⟨[6, 7], [1000, 1001], [], [], [1000, 1001]⟩
  | _ => ⟨[], [], [], [], []⟩
noncomputable abbrev Vs : Cx := ⟨Tryd.prog, ⟨id, XT, Xf⟩, XL⟩
noncomputable def J5 : Code := match Tryd.f72.body with | some (.seq c _) => c | _ => .skip
noncomputable def J4 : Code := match Tryd.f72.body with | some (.seq _ (.seq _ c)) => c | _ => .skip
noncomputable def afV : Oper := match Tryd.f72.body with | some (.seq _ (.seq (.region _ ops _) _)) => (ops[0]?).getD ⟨none, .move (.tmp 0), 0, "", #[], none⟩ | _ => ⟨none, .move (.tmp 0), 0, "", #[], none⟩
noncomputable def afn : Oper := match Tryd.f72.body with | some (.seq _ (.seq (.region _ ops _) _)) => (ops[1]?).getD ⟨none, .move (.tmp 0), 0, "", #[], none⟩ | _ => ⟨none, .move (.tmp 0), 0, "", #[], none⟩
theorem abC {args : List PV} {r : PV} (ha : args.length = 3) (h : awp Vs J5 (midD Vs 96 13 7 6 J4 [.cell 6 123, .cell 7 31] r) (zO args [])) : PC Tryd.prog 72 args r :=
  ale (X := Vs) (id := 1) (o1 := afV) (o2 := afn) (c0 := J5) (c1 := J4) mixed Tryd.func72 (by kernel_rfl) ⟨by rfl, by rfl, by rfl⟩ ⟨⟨_, by rfl⟩, by rfl, by rfl⟩ (by kernel_rfl) ⟨_, Tryd.func96, by kernel_rfl, by kernel_rfl⟩ (rs := [.cell 6 123, .cell 7 31]) (by kernel_rfl) (by kernel_rfl) (by kernel_rfl) (by rw [ha]; decide) (by decide) h
noncomputable def YW : Code := (Tryd.f73.body).getD .skip
def J7 : List (Nat × Nf) := []
def Xu : List (Nat × List Nat) := [(44, []), (45, []), (48, []), (49, []), (75, []), (76, []), (79, []), (80, []), (81, [11]), (82, [9]), (83, [9]), (500081, [11]), (500083, [9])]
def XK : Nat → Ann
  | 0 => ⟨[0, 1], [], [], [], []⟩
  | 1 => ⟨[0, 1, 19], [], [], [], []⟩
  | 2 => ⟨[4, 5, 6], [], [.nrm 4 [some 5], .nrm 5 [some 5]], [], []⟩
  | 3 => ⟨[0, 1, 7], [], [], [], []⟩
  | 4 => ⟨[0, 1, 7, 32], [], [], [], []⟩
  | 5 => ⟨[0, 1, 7], [], [], [], []⟩
  | 6 => ⟨[0, 1, 7], [], [], [], []⟩
  | 7 => ⟨[0, 1, 7, 8, 9], [45, 49], [], [.ren 45 8, .ren 49 9], [8, 9, 45, 49]⟩
  | 8 => ⟨[0, 1, 7, 8, 9, 50], [8, 9], [], [], [8, 9]⟩
  | 9 => ⟨[4, 5, 6], [8, 9], [], [.ren 8 4, .ren 9 5], [4, 5, 8, 9]⟩
  | 10 => ⟨[0, 1, 7, 8, 9, 55], [8, 9], [], [], [8, 9]⟩
  | 11 => ⟨[4, 5, 6], [], [.nrm 4 [some 5], .nrm 5 [some 5]], [], []⟩
  | 12 => ⟨[0, 1, 7, 8, 9, 10], [8, 9], [], [], [8, 9]⟩
  | 13 => ⟨[1, 8, 9, 10, 11], [8, 9, 11], [], [], [8, 9, 11]⟩
  | 14 => ⟨[8, 9, 11], [8, 9, 11], [], [], [8, 9, 11]⟩
  | 15 => ⟨[4, 5, 6], [8, 9], [], [.ren 8 4, .ren 9 5], [4, 5, 8, 9]⟩
  | _ => ⟨[], [], [], [], []⟩
noncomputable abbrev aam : Cx := ⟨Tryd.prog, ⟨id, J7, Xu⟩, XK⟩
theorem acy {args : List PV} {r : PV} (ha : args.length = 2) (h : awp aam YW (zQ Tryd.prog [.tmp 4, .tmp 5, .tmp 6] r []) (zO args [])) : PC Tryd.prog 73 args r :=
  zJ (X := aam) mixed Tryd.func73 (c := YW) (by kernel_rfl) (by kernel_rfl) (rs := [.tmp 4, .tmp 5, .tmp 6]) (by kernel_rfl) (by kernel_rfl) (by rw [ha]; decide) h
noncomputable def Ze : Code := (Tryd.f83.body).getD .skip
def yn : List (Nat × Nf) := []
def yA : List (Nat × List Nat) := []
def ym : Nat → Ann
  | 0 => ⟨[0], [], [], [], []⟩
  | 1 => ⟨[0, 3], [], [], [], []⟩
  | 2 => ⟨[0, 3, 9, 10, 11], [], [], [], []⟩
  | 3 => ⟨[0, 3, 9, 10, 11, 12], [], [], [], []⟩
  | 4 => ⟨[0, 3, 5, 9, 10, 11], [], [], [], []⟩
  | 5 => ⟨[0, 3, 9, 10, 11], [], [], [], []⟩
  | 6 => ⟨[0, 3, 9, 10, 11, 20], [], [], [], []⟩
  | 7 => ⟨[0, 3, 9, 10, 11], [], [], [], []⟩
  | 8 => ⟨[0, 3, 9, 10, 11], [], [], [], []⟩
  | 9 => ⟨[0, 6], [24], [], [.ren 24 6], [6, 24]⟩
  | 10 => ⟨[6, 25, 26, 27], [6], [], [], [6]⟩
  | 11 => ⟨[6, 25, 26, 27, 28], [6], [], [], [6]⟩
  | 12 => ⟨[6, 8, 25, 26, 27], [6], [], [], [6]⟩
  | 13 => ⟨[6, 25, 26, 27], [6], [], [], [6]⟩
  | 14 => ⟨[6, 25, 26, 27], [6], [], [], [6]⟩
  | 15 => ⟨[2], [6], [], [.ren 6 2], [2, 6]⟩
  | _ => ⟨[], [], [], [], []⟩
noncomputable abbrev y5 : Cx := ⟨Tryd.prog, ⟨id, yn, yA⟩, ym⟩
theorem Wo {args : List PV} {r : PV} (ha : args.length = 1) (h : awp y5 Ze (zQ Tryd.prog [.tmp 2] r []) (zO args [])) : PC Tryd.prog 83 args r :=
  zJ (X := y5) mixed Tryd.func83 (c := Ze) (by kernel_rfl) (by kernel_rfl) (rs := [.tmp 2]) (by kernel_rfl) (by kernel_rfl) (by rw [ha]; decide) h
noncomputable def adZ : Code := (Tryd.f49.body).getD .skip
def abA : List (Nat × Nf) := [(33, [none, none, some 1, some 2, none]), (37, [none, none, some 1, some 2, some 5]), (40, [none, none, some 1, some 2, some 5]), (83, [none, none, some 1, some 2, some 5])]
def abp : List (Nat × List Nat) := []
def acj : Nat → Ann
  | 0 => ⟨[1, 2, 3, 4, 8], [4, 8], [.nrm 8 [none, none, some 1, some 2, some 5]], [], [4, 8]⟩
  | 1 => ⟨[3, 4, 8, 10, 11], [4, 8, 10], [], [], [4, 8, 10]⟩
  | 2 => ⟨[3, 4, 8, 10, 11, 36], [4, 8, 10], [], [], [4, 8, 10]⟩
  | 3 => ⟨[8, 9], [8], [], [], [8]⟩
  | 4 => ⟨[3, 4, 8, 10, 11, 39], [4, 8, 10], [], [], [4, 8, 10]⟩
  | 5 => ⟨[8, 9], [8], [], [], [8]⟩
  | 6 => ⟨[3, 4, 8, 10, 12], [4, 8, 10], [], [], [4, 8, 10]⟩
  | 7 => ⟨[3, 4, 8, 10, 12, 16], [4, 8, 10], [], [], [4, 8, 10]⟩
  | 8 => ⟨[4, 8, 10], [4, 8, 10], [], [], [4, 8, 10]⟩
  | 9 => ⟨[8, 18], [8, 18], [], [], [8, 18]⟩
  | 10 => ⟨[8, 18, 20], [8, 18], [], [], [8, 18]⟩
  | 11 => ⟨[8, 18, 20, 82], [8, 18], [], [], [8, 18]⟩
  | 12 => ⟨[8, 9], [8], [], [], [8]⟩
  | 13 => ⟨[8, 9], [8], [], [], [8]⟩
  | _ => ⟨[], [], [], [], []⟩
noncomputable abbrev adH : Cx := ⟨Tryd.prog, ⟨id, abA, abp⟩, acj⟩
theorem aeq {args : List PV} {r : PV} (ha : args.length = 4) (h : awp adH adZ (zQ Tryd.prog [.cell 8 28, .tmp 9] r []) (zO args [])) : PC Tryd.prog 49 args r :=
  zJ (X := adH) mixed Tryd.func49 (c := adZ) (by kernel_rfl) (by kernel_rfl) (rs := [.cell 8 28, .tmp 9]) (by kernel_rfl) (by kernel_rfl) (by rw [ha]; decide) h
noncomputable def acx : Code := (Tryd.f17.body).getD .skip
def Y8 : List (Nat × Nf) := [(16, [none, none, some 1, some 2, some 5]), (26, [none, none, some 1, some 2, some 5])]
def YE : List (Nat × List Nat) := []
def Yy : Nat → Ann
  | 0 => ⟨[2, 3, 4], [2, 3, 4], [.nrm 4 [none, none, some 1, some 2, some 5]], [], [2, 3, 4]⟩
  | 1 => ⟨[2, 3, 4, 12], [2, 3, 4], [], [], [2, 3, 4]⟩
  | 2 => ⟨[4, 5], [4], [], [], [4]⟩
  | 3 => ⟨[2, 3, 4, 17], [2, 3, 4], [], [], [2, 3, 4]⟩
  | 4 => ⟨[4, 5], [4], [], [], [4]⟩
  | 5 => ⟨[2, 3, 4, 27], [2, 3, 4], [], [], [2, 3, 4]⟩
  | 6 => ⟨[4, 5], [4], [], [], [4]⟩
  | 7 => ⟨[2, 3, 4, 41], [2, 3, 4], [], [], [2, 3, 4]⟩
  | 8 => ⟨[4, 6, 8], [4, 6], [], [], [4, 6]⟩
  | 9 => ⟨[4, 5], [4], [], [], [4]⟩
  | 10 => ⟨[4, 9, 11], [4, 9], [], [], [4, 9]⟩
  | 11 => ⟨[4, 5], [4], [], [], [4]⟩
  | _ => ⟨[], [], [], [], []⟩
noncomputable abbrev abQ : Cx := ⟨Tryd.prog, ⟨id, Y8, YE⟩, Yy⟩
theorem adi {args : List PV} {r : PV} (ha : args.length = 2) (h : awp abQ acx (zQ Tryd.prog [.cell 4 28, .tmp 5] r []) (zO args [])) : PC Tryd.prog 17 args r :=
  zJ (X := abQ) mixed Tryd.func17 (c := acx) (by kernel_rfl) (by kernel_rfl) (rs := [.cell 4 28, .tmp 5]) (by kernel_rfl) (by kernel_rfl) (by rw [ha]; decide) h
noncomputable def ags : Code := (Tryd.f14.body).getD .skip
def aec : List (Nat × Nf) := [(23, [none, none, some 1, some 2, some 5])]
def adN : List (Nat × List Nat) := []
def adK : Nat → Ann
  | 0 => ⟨[1, 2, 4], [2, 4], [.nrm 4 [none, none, some 1, some 2, some 5]], [], [2, 4]⟩
  | 1 => ⟨[1, 2, 4], [2, 4], [], [], [2, 4]⟩
  | 2 => ⟨[2, 4, 9, 10, 11], [2, 4], [], [], [2, 4]⟩
  | 3 => ⟨[2, 4, 9, 10, 11, 12], [2, 4], [], [], [2, 4]⟩
  | 4 => ⟨[2, 4, 8, 9, 10, 11], [2, 4, 8], [], [], [2, 4, 8]⟩
  | 5 => ⟨[2, 4, 6, 9, 10, 11], [2, 4], [], [], [2, 4]⟩
  | 6 => ⟨[2, 4, 6, 9, 10, 11, 22], [2, 4], [], [], [2, 4]⟩
  | 7 => ⟨[4, 5], [4], [], [], [4]⟩
  | 8 => ⟨[2, 4, 9, 10, 11], [2, 4], [], [], [2, 4]⟩
  | 9 => ⟨[4, 5], [4], [], [], [4]⟩
  | _ => ⟨[], [], [], [], []⟩
noncomputable abbrev af8 : Cx := ⟨Tryd.prog, ⟨id, aec, adN⟩, adK⟩
theorem afG {args : List PV} {r : PV} (ha : args.length = 2) (h : awp af8 ags (zQ Tryd.prog [.cell 4 28, .tmp 5] r []) (zO args [])) : PC Tryd.prog 14 args r :=
  zJ (X := af8) mixed Tryd.func14 (c := ags) (by kernel_rfl) (by kernel_rfl) (rs := [.cell 4 28, .tmp 5]) (by kernel_rfl) (by kernel_rfl) (by rw [ha]; decide) h
noncomputable def ZA : Code := (Tryd.f43.body).getD .skip
def Zb : List (Nat × Nf) := []
def y8 : List (Nat × List Nat) := []
def yP : Nat → Ann
  | 0 => ⟨[0, 1], [], [], [], []⟩
  | 1 => ⟨[0, 1, 10], [], [], [], []⟩
  | 2 => ⟨[4], [], [], [], []⟩
  | 3 => ⟨[0, 1, 12, 13], [], [], [], []⟩
  | 4 => ⟨[0, 1, 12, 13, 14], [], [], [], []⟩
  | 5 => ⟨[0, 1, 5, 12, 13], [], [], [], []⟩
  | 6 => ⟨[0, 1, 12, 13, 24], [], [], [], []⟩
  | 7 => ⟨[4], [], [], [], []⟩
  | 8 => ⟨[0, 1, 12, 13], [], [], [], []⟩
  | 9 => ⟨[4], [], [], [], []⟩
  | _ => ⟨[], [], [], [], []⟩
noncomputable abbrev Zy : Cx := ⟨Tryd.prog, ⟨id, Zb, y8⟩, yP⟩
theorem WZ {args : List PV} {r : PV} (ha : args.length = 2) (h : awp Zy ZA (zQ Tryd.prog [.tmp 4] r []) (zO args [])) : PC Tryd.prog 43 args r :=
  zJ (X := Zy) mixed Tryd.func43 (c := ZA) (by kernel_rfl) (by kernel_rfl) (rs := [.tmp 4]) (by kernel_rfl) (by kernel_rfl) (by rw [ha]; decide) h
noncomputable def vF : Code := (Tryd.f44.body).getD .skip
def vk : List (Nat × Nf) := []
def vB : List (Nat × List Nat) := []
def kZ : Nat → Ann
  | 0 => ⟨[0, 1, 2], [], [], [], []⟩
  | 1 => ⟨[0, 1, 2, 14], [], [], [], []⟩
  | 2 => ⟨[6], [], [], [], []⟩
  | 3 => ⟨[1, 2, 15, 16, 17], [], [], [], []⟩
  | 4 => ⟨[1, 2, 15, 16, 17, 18], [], [], [], []⟩
  | 5 => ⟨[1, 2, 7, 8, 15, 16, 17], [8], [], [], [8]⟩
  | 6 => ⟨[1, 2, 8, 9, 15, 16, 17], [8, 9], [], [], [8, 9]⟩
  | 7 => ⟨[1, 2, 15, 16, 17, 30], [], [], [], []⟩
  | 8 => ⟨[6], [], [], [], []⟩
  | 9 => ⟨[1, 2, 15, 16, 17], [], [], [], []⟩
  | 10 => ⟨[6], [], [], [], []⟩
  | _ => ⟨[], [], [], [], []⟩
noncomputable abbrev vG : Cx := ⟨Tryd.prog, ⟨id, vk, vB⟩, kZ⟩
theorem xn {args : List PV} {r : PV} (ha : args.length = 3) (h : awp vG vF (zQ Tryd.prog [.tmp 6] r []) (zO args [])) : PC Tryd.prog 44 args r :=
  zJ (X := vG) mixed Tryd.func44 (c := vF) (by kernel_rfl) (by kernel_rfl) (rs := [.tmp 6]) (by kernel_rfl) (by kernel_rfl) (by rw [ha]; decide) h
noncomputable def adO : Code := (Tryd.f15.body).getD .skip
def abf : List (Nat × Nf) := []
def abk : List (Nat × List Nat) := []
def abK : Nat → Ann
  | 0 => ⟨[2, 3], [2, 3], [], [], [2, 3]⟩
  | 1 => ⟨[4], [], [], [], []⟩
  | _ => ⟨[], [], [], [], []⟩
noncomputable abbrev aea : Cx := ⟨Tryd.prog, ⟨id, abf, abk⟩, abK⟩
theorem aef {args : List PV} {r : PV} (ha : args.length = 2) (h : awp aea adO (zQ Tryd.prog [.tmp 4] r []) (zO args [])) : PC Tryd.prog 15 args r :=
  zJ (X := aea) mixed Tryd.func15 (c := adO) (by kernel_rfl) (by kernel_rfl) (rs := [.tmp 4]) (by kernel_rfl) (by kernel_rfl) (by rw [ha]; decide) h
noncomputable def Wh : Code := (Tryd.f24.body).getD .skip
def Qr : List (Nat × Nf) := [(4, [none, none, some 1, some 2, some 5]), (6, [none, none, some 1, some 2, some 5]), (8, [none, none, some 1, some 2, some 5]), (11, [none, none, none, some 5, none, none])]
def Qp : List (Nat × List Nat) := []
def Qq : Nat → Ann
  | 0 => ⟨[], [], [], [], []⟩
  | 1 => ⟨[1], [1], [], [], [1]⟩
  | 2 => ⟨[2, 3], [2], [], [], [2]⟩
  | 3 => ⟨[0], [], [], [], []⟩
  | _ => ⟨[], [], [], [], []⟩
noncomputable abbrev Wd : Cx := ⟨Tryd.prog, ⟨id, Qr, Qp⟩, Qq⟩
theorem Vn {args : List PV} {r : PV} (ha : args.length = 0) (h : awp Wd Wh (zQ Tryd.prog [.tmp 0] r []) (zO args [])) : PC Tryd.prog 24 args r :=
  zJ (X := Wd) mixed Tryd.func24 (c := Wh) (by kernel_rfl) (by kernel_rfl) (rs := [.tmp 0]) (by kernel_rfl) (by kernel_rfl) (by rw [ha]; decide) h
noncomputable def Wy : Code := (Tryd.f26.body).getD .skip
def QZ : List (Nat × Nf) := []
def QX : List (Nat × List Nat) := []
def We : Nat → Ann
  | 0 => ⟨[0, 1], [], [], [], []⟩
  | 1 => ⟨[0, 1, 6], [], [], [], []⟩
  | 2 => ⟨[0, 1], [], [], [], []⟩
  | 3 => ⟨[4], [], [], [], []⟩
  | _ => ⟨[], [], [], [], []⟩
noncomputable abbrev WH : Cx := ⟨Tryd.prog, ⟨id, QZ, QX⟩, We⟩
theorem V3 {args : List PV} {r : PV} (ha : args.length = 2) (h : awp WH Wy (zQ Tryd.prog [.tmp 4] r []) (zO args [])) : PC Tryd.prog 26 args r :=
  zJ (X := WH) mixed Tryd.func26 (c := Wy) (by kernel_rfl) (by kernel_rfl) (rs := [.tmp 4]) (by kernel_rfl) (by kernel_rfl) (by rw [ha]; decide) h
noncomputable def WL : Code := (Tryd.f38.body).getD .skip
def Q5 : List (Nat × Nf) := []
def QY : List (Nat × List Nat) := []
def Q9 : Nat → Ann
  | 0 => ⟨[1], [1], [], [], [1]⟩
  | 1 => ⟨[1, 7], [1], [], [], [1]⟩
  | 2 => ⟨[2], [], [], [], []⟩
  | 3 => ⟨[1, 3], [1], [], [], [1]⟩
  | 4 => ⟨[1, 3, 4], [1], [], [], [1]⟩
  | 5 => ⟨[1, 3, 4, 12], [1], [], [], [1]⟩
  | 6 => ⟨[1, 3, 4], [1], [], [], [1]⟩
  | 7 => ⟨[1, 3, 4], [1], [], [], [1]⟩
  | 8 => ⟨[2], [], [], [], []⟩
  | _ => ⟨[], [], [], [], []⟩
noncomputable abbrev WN : Cx := ⟨Tryd.prog, ⟨id, Q5, QY⟩, Q9⟩
theorem VY {args : List PV} {r : PV} (ha : args.length = 1) (h : awp WN WL (zQ Tryd.prog [.tmp 2] r []) (zO args [])) : PC Tryd.prog 38 args r :=
  zJ (X := WN) mixed Tryd.func38 (c := WL) (by kernel_rfl) (by kernel_rfl) (rs := [.tmp 2]) (by kernel_rfl) (by kernel_rfl) (by rw [ha]; decide) h
noncomputable def ZE : Code := (Tryd.f95.body).getD .skip
def yF : List (Nat × Nf) := []
def yL : List (Nat × List Nat) := []
def yK : Nat → Ann
  | 0 => ⟨[0, 1], [], [], [], []⟩
  | 1 => ⟨[0, 1, 10], [], [], [], []⟩
  | 2 => ⟨[4], [], [], [], []⟩
  | 3 => ⟨[0, 1, 5], [], [], [], []⟩
  | 4 => ⟨[0, 1, 5, 14], [], [], [], []⟩
  | 5 => ⟨[0, 1, 5], [], [], [], []⟩
  | 6 => ⟨[0, 1, 5, 25], [], [], [], []⟩
  | 7 => ⟨[4], [], [], [], []⟩
  | 8 => ⟨[4], [], [], [], []⟩
  | _ => ⟨[], [], [], [], []⟩
noncomputable abbrev ZF : Cx := ⟨Tryd.prog, ⟨id, yF, yL⟩, yK⟩
theorem WY {args : List PV} {r : PV} (ha : args.length = 2) (h : awp ZF ZE (zQ Tryd.prog [.tmp 4] r []) (zO args [])) : PC Tryd.prog 95 args r :=
  zJ (X := ZF) mixed Tryd.func95 (c := ZE) (by kernel_rfl) (by kernel_rfl) (rs := [.tmp 4]) (by kernel_rfl) (by kernel_rfl) (by rw [ha]; decide) h
noncomputable def KD : Code := (Tryd.f65.body).getD .skip
def WG : List (Nat × Nf) := []
def WE : List (Nat × List Nat) := [(65, [3]), (66, [3, 62]), (67, [5]), (69, [62, 68])]
def Wv : Nat → Ann
  | 0 => ⟨[0], [], [], [], []⟩
  | 1 => ⟨[0, 3], [3], [.thaw 3 3 5], [], [3]⟩
  | 2 => ⟨[0, 3, 4], [3], [], [], [3]⟩
  | 3 => ⟨[0, 3, 4, 10], [3], [], [], [3]⟩
  | 4 => ⟨[0, 3, 4], [3], [], [], [3]⟩
  | 5 => ⟨[0, 3, 4, 5], [3, 5], [], [], [3, 5]⟩
  | 6 => ⟨[0, 3, 4, 5, 6], [3, 5], [], [], [3, 5]⟩
  | 7 => ⟨[0, 3, 4, 5, 6, 27], [3, 5], [], [], [3, 5]⟩
  | 8 => ⟨[0, 3, 4, 5, 6, 52], [3, 5], [], [], [3, 5]⟩
  | 9 => ⟨[0, 3, 4, 5, 6], [3, 5], [], [], [3, 5]⟩
  | 10 => ⟨[0, 3, 4], [62], [], [.ren 62 3], [3, 62]⟩
  | 11 => ⟨[0, 3, 4], [3], [], [], [3]⟩
  | 12 => ⟨[2], [3], [], [.ren 3 2], [2, 3]⟩
  | _ => ⟨[], [], [], [], []⟩
noncomputable abbrev KL : Cx := ⟨Tryd.prog, ⟨id, WG, WE⟩, Wv⟩
theorem Jp {args : List PV} {r : PV} (ha : args.length = 1) (h : awp KL KD (zQ Tryd.prog [.tmp 2] r []) (zO args [])) : PC Tryd.prog 65 args r :=
  zJ (X := KL) mixed Tryd.func65 (c := KD) (by kernel_rfl) (by kernel_rfl) (rs := [.tmp 2]) (by kernel_rfl) (by kernel_rfl) (by rw [ha]; decide) h
noncomputable def Wx : Code := (Tryd.f56.body).getD .skip
def Q8 : List (Nat × Nf) := [(29, [none, none, some 1, some 2, none])]
def Wi : List (Nat × List Nat) := []
def Wm : Nat → Ann
  | 0 => ⟨[1, 2, 4], [2, 4], [.nrm 4 [none, none, some 1, some 2, some 5]], [], [2, 4]⟩
  | 1 => ⟨[1, 2, 4, 5], [2, 4, 8], [], [.ren 8 5], [2, 4, 5, 8]⟩
  | 2 => ⟨[1, 2, 4, 5, 6], [2, 4, 5, 9], [], [.ren 9 6], [2, 4, 5, 6, 9]⟩
  | 3 => ⟨[1, 4, 7], [4, 25], [], [.ren 25 7], [4, 7, 25]⟩
  | 4 => ⟨[4], [4], [], [], [4]⟩
  | _ => ⟨[], [], [], [], []⟩
noncomputable abbrev WJ : Cx := ⟨Tryd.prog, ⟨id, Q8, Wi⟩, Wm⟩
theorem VN {args : List PV} {r : PV} (ha : args.length = 2) (h : awp WJ Wx (zQ Tryd.prog [.cell 4 28] r []) (zO args [])) : PC Tryd.prog 56 args r :=
  zJ (X := WJ) mixed Tryd.func56 (c := Wx) (by kernel_rfl) (by kernel_rfl) (rs := [.cell 4 28]) (by kernel_rfl) (by kernel_rfl) (by rw [ha]; decide) h
noncomputable def Ki : Code := (Tryd.f25.body).getD .skip
def Ww : List (Nat × Nf) := [(14, [none, none, some 1, some 2, none]), (34, [none, none, none, some 2, some 5]), (62, [none, none, some 1, none, none]), (93, [none, none, some 1, some 2, none]), (171, [none, none, none, none, some 5]), (173, [none, none, some 1, some 2, some 5]), (177, [none, none, none, none, some 5])]
def WC : List (Nat × List Nat) := [(115, [12]), (116, [12]), (117, [114]), (118, [11]), (120, [114, 119]), (121, [12]), (123, [4]), (124, [4]), (126, [332]), (127, [122, 332]), (128, [12]), (130, [122, 129]), (131, [4]), (152, [11]), (153, [11]), (154, [4]), (155, [4]), (157, [332]), (158, [332]), (160, [159, 381]), (161, [11]), (500121, [12, 114]), (500131, [4, 122])]
def WM : Nat → Ann
  | 0 => ⟨[0, 2], [2], [.nrm 2 [none, none, some 1, some 2, some 5]], [], [2]⟩
  | 1 => ⟨[0, 2, 3], [2, 13], [], [.ren 13 3], [2, 3, 13]⟩
  | 2 => ⟨[0, 2, 3, 4], [2, 3, 4, 332], [.Vk 4 4 332 5], [], [2, 3, 4, 332]⟩
  | 3 => ⟨[0, 2, 3, 4, 5], [2, 3, 4, 5, 332], [.thaw 5 5 5], [], [2, 3, 4, 5, 332]⟩
  | 4 => ⟨[0, 2, 3, 4, 5, 6], [2, 3, 4, 5, 332], [], [], [2, 3, 4, 5, 332]⟩
  | 5 => ⟨[0, 2, 3, 4, 5, 6, 22], [2, 3, 4, 5, 332], [], [], [2, 3, 4, 5, 332]⟩
  | 6 => ⟨[0, 2, 3, 4, 5, 6], [2, 3, 4, 5, 332], [], [], [2, 3, 4, 5, 332]⟩
  | 7 => ⟨[0, 2, 3, 4, 5, 6, 7], [2, 3, 4, 5, 7, 332, 351], [.Vk 7 2 351 1], [], [2, 3, 4, 5, 7, 332, 351]⟩
  | 8 => ⟨[0, 2, 3, 4, 5, 6, 7, 42], [2, 3, 4, 5, 7, 332, 351], [], [], [2, 3, 4, 5, 7, 332, 351]⟩
  | 9 => ⟨[0, 2, 3, 4, 5, 6, 7], [2, 3, 4, 5, 7, 332, 351], [], [], [2, 3, 4, 5, 7, 332, 351]⟩
  | 10 => ⟨[0, 2, 3, 4, 5, 6, 7, 55], [2, 3, 4, 5, 7, 332, 351], [], [], [2, 3, 4, 5, 7, 332, 351]⟩
  | 11 => ⟨[0, 2, 3, 4, 5, 6, 7], [2, 3, 4, 5, 7, 332, 351], [], [], [2, 3, 4, 5, 7, 332, 351]⟩
  | 12 => ⟨[0, 2, 3, 4, 5, 6], [2, 3, 4, 5, 332], [], [], [2, 3, 4, 5, 332]⟩
  | 13 => ⟨[0, 2, 3, 4, 5, 6, 8], [2, 3, 4, 5, 332], [], [], [2, 3, 4, 5, 332]⟩
  | 14 => ⟨[0, 2, 3, 4, 5, 6, 8, 72], [2, 3, 4, 5, 332], [], [], [2, 3, 4, 5, 332]⟩
  | 15 => ⟨[0, 2, 3, 4, 6, 8, 9], [2, 3, 4, 9, 332], [], [], [2, 3, 4, 9, 332]⟩
  | 16 => ⟨[0, 2, 3, 4, 5, 6, 8, 9], [2, 3, 4, 5, 9, 332], [.thaw 5 5 5], [], [2, 3, 4, 5, 9, 332]⟩
  | 17 => ⟨[0, 2, 3, 4, 5, 6, 8, 9, 10], [2, 3, 4, 5, 9, 332], [], [], [2, 3, 4, 5, 9, 332]⟩
  | 18 => ⟨[0, 2, 3, 4, 5, 6, 8, 9, 10, 84], [2, 3, 4, 5, 9, 332], [], [], [2, 3, 4, 5, 9, 332]⟩
  | 19 => ⟨[0, 2, 3, 4, 5, 6], [2, 3, 4, 5, 332], [], [], [2, 3, 4, 5, 332]⟩
  | 20 => ⟨[0, 2, 3, 4, 5, 6, 8, 10, 11], [2, 3, 4, 5, 11, 92, 332], [], [.ren 92 381], [2, 3, 4, 5, 11, 92, 332, 381]⟩
  | 21 => ⟨[0, 2, 3, 4, 5, 6, 10, 11, 108], [2, 3, 4, 5, 11, 332, 381], [], [], [2, 3, 4, 5, 11, 332, 381]⟩
  | 22 => ⟨[0, 2, 3, 4, 5, 6, 10, 11, 12], [2, 3, 4, 5, 11, 12, 332, 381], [], [], [2, 3, 4, 5, 11, 12, 332, 381]⟩
  | 23 => ⟨[0, 2, 3, 4, 5, 6, 10, 12], [2, 3, 4, 5, 12, 332], [.nrm 12 [none, none, none, none, some 5]], [], [2, 3, 4, 5, 12, 332]⟩
  | 24 => ⟨[0, 2, 3, 4, 5, 6], [2, 3, 4, 5, 122], [], [.ren 122 332], [2, 3, 4, 5, 122, 332]⟩
  | 25 => ⟨[0, 2, 3, 4, 5, 6, 10, 11, 151], [2, 3, 4, 5, 11, 332, 381], [], [], [2, 3, 4, 5, 11, 332, 381]⟩
  | 26 => ⟨[0, 2, 3, 4, 5, 6, 10, 11], [2, 3, 4, 5, 11, 332, 381], [], [], [2, 3, 4, 5, 11, 332, 381]⟩
  | 27 => ⟨[0, 2, 3, 4, 5, 6, 11], [2, 3, 4, 5, 11, 162, 381], [], [.ren 162 332], [2, 3, 4, 5, 11, 162, 332, 381]⟩
  | 28 => ⟨[0, 2, 3, 4, 5, 6], [2, 3, 4, 5, 332], [], [], [2, 3, 4, 5, 332]⟩
  | 29 => ⟨[2], [2], [], [], [2]⟩
  | _ => ⟨[], [], [], [], []⟩
noncomputable abbrev Kw : Cx := ⟨Tryd.prog, ⟨id, Ww, WC⟩, WM⟩
theorem Jw {args : List PV} {r : PV} (ha : args.length = 1) (h : awp Kw Ki (zQ Tryd.prog [.cell 2 28] r []) (zO args [])) : PC Tryd.prog 25 args r :=
  zJ (X := Kw) mixed Tryd.func25 (c := Ki) (by kernel_rfl) (by kernel_rfl) (rs := [.cell 2 28]) (by kernel_rfl) (by kernel_rfl) (by rw [ha]; decide) h
noncomputable def jM : Code := (Tryd.f53.body).getD .skip
def jw : List (Nat × Nf) := []
def jF : List (Nat × List Nat) := []
def jA : Nat → Ann
  | 0 => ⟨[0, 1], [1000, 1001], [], [], [1000, 1001]⟩
  | 1 => ⟨[0, 1], [1000, 1001], [], [], [1000, 1001]⟩
  | 2 => ⟨[1], [1000, 1001], [], [], [1000, 1001]⟩
  | 3 => ⟨[4, 5], [1000, 1001], [], [], [1000, 1001]⟩
  | _ => ⟨[], [], [], [], []⟩
noncomputable abbrev jL : Cx := ⟨Tryd.prog, ⟨id, jw, jF⟩, jA⟩
theorem yT {args : List PV} {es es' : List Ent} {r : PV} (ha : args.length = 2) (hl : es'.length = es.length) (he : (es'.all fun e => e.qQ es.length) = true) (h : awp jL jM (zQ Tryd.prog [.tmp 4, .tmp 5] r es') (zO args es)) : BC Tryd.prog 53 args es r es' :=
  yf (X := jL) mixed Tryd.func53 (c := jM) (by kernel_rfl) (by kernel_rfl) (rs := [.tmp 4, .tmp 5]) (by kernel_rfl) (by kernel_rfl) (by rw [ha]; decide) hl (fun e h => List.all_eq_true.1 he e h) h
noncomputable def VK : Code := (Tryd.f57.body).getD .skip
def Ve : List (Nat × Nf) := []
def K4 : List (Nat × List Nat) := []
def Vj : Nat → Ann
  | 0 => ⟨[1, 2, 3], [3, 1000, 1001, 1002], [], [], [3, 1000, 1001, 1002]⟩
  | 1 => ⟨[1, 2, 3, 7], [3, 1000, 1001, 1002], [], [], [3, 1000, 1001, 1002]⟩
  | 2 => ⟨[], [1000, 1001, 1002], [], [], [1000, 1001, 1002]⟩
  | 3 => ⟨[2, 12, 13, 14], [1000, 1001, 1002], [], [], [1000, 1001, 1002]⟩
  | 4 => ⟨[2, 12, 13, 14, 15], [1000, 1001, 1002], [], [], [1000, 1001, 1002]⟩
  | 5 => ⟨[2, 5, 12, 13, 14], [5, 1000, 1001, 1002], [], [], [5, 1000, 1001, 1002]⟩
  | 6 => ⟨[2, 12, 13, 14], [1000, 1001, 1002], [], [], [1000, 1001, 1002]⟩
  | 7 => ⟨[2, 12, 13, 14], [1000, 1001, 1002], [], [], [1000, 1001, 1002]⟩
  | _ => ⟨[], [], [], [], []⟩
noncomputable abbrev VJ : Cx := ⟨Tryd.prog, ⟨id, Ve, K4⟩, Vj⟩
theorem X6 {args : List PV} {es es' : List Ent} {r : PV} (ha : args.length = 3) (hl : es'.length = es.length) (he : (es'.all fun e => e.qQ es.length) = true) (h : awp VJ VK (zQ Tryd.prog [] r es') (zO args es)) : BC Tryd.prog 57 args es r es' :=
  yf (X := VJ) mixed Tryd.func57 (c := VK) (by kernel_rfl) (by kernel_rfl) (rs := []) (by kernel_rfl) (by kernel_rfl) (by rw [ha]; decide) hl (fun e h => List.all_eq_true.1 he e h) h
noncomputable def abq : Code := (Tryd.f28.body).getD .skip
def YG : List (Nat × Nf) := []
def Y9 : List (Nat × List Nat) := []
def aaq : Nat → Ann
  | 0 => ⟨[1], [1], [], [], [1]⟩
  | 1 => ⟨[1, 3], [1, 3, 322], [.self 3 0, .X7 3 1 322 5], [], [1, 3, 322]⟩
  | 2 => ⟨[1, 3, 4], [1, 3, 4, 322], [], [], [1, 3, 4, 322]⟩
  | 3 => ⟨[1, 3, 4], [1, 3, 4, 322], [], [], [1, 3, 4, 322]⟩
  | 4 => ⟨[3], [3, 322], [], [], [3, 322]⟩
  | 5 => ⟨[2], [], [], [], []⟩
  | _ => ⟨[], [], [], [], []⟩
noncomputable abbrev abB : Cx := ⟨Tryd.prog, ⟨id, YG, Y9⟩, aaq⟩
theorem adr {args : List PV} {r : PV} (ha : args.length = 1) (h : awp abB abq (zQ Tryd.prog [.tmp 2] r []) (zO args [])) : PC Tryd.prog 28 args r :=
  zJ (X := abB) mixed Tryd.func28 (c := abq) (by kernel_rfl) (by kernel_rfl) (rs := [.tmp 2]) (by kernel_rfl) (by kernel_rfl) (by rw [ha]; decide) h
noncomputable def Zd : Code := (Tryd.f5.body).getD .skip
def yw : List (Nat × Nf) := [(49, [none, none, none, some 5, none, none]), (56, [none, none, none, some 5, none, none]), (63, [none, none, none, some 5, none, none])]
def yz : List (Nat × List Nat) := []
def yB : Nat → Ann
  | 0 => ⟨[0, 1, 2], [], [], [], []⟩
  | 1 => ⟨[0, 1, 2, 7], [], [], [], []⟩
  | 2 => ⟨[0, 1, 2, 28], [], [], [], []⟩
  | 3 => ⟨[6], [], [], [], []⟩
  | 4 => ⟨[1, 2, 8], [8], [], [], [8]⟩
  | 5 => ⟨[2, 8, 9], [8], [], [], [8]⟩
  | 6 => ⟨[8, 9, 10], [8], [], [], [8]⟩
  | 7 => ⟨[8, 9, 10, 11], [8, 11], [], [], [8, 11]⟩
  | 8 => ⟨[8, 9, 10, 11, 12], [8, 11, 12], [], [], [8, 11, 12]⟩
  | 9 => ⟨[8, 11, 12, 13], [8, 11, 12, 13], [], [], [8, 11, 12, 13]⟩
  | 10 => ⟨[8, 11, 12, 13, 14, 15], [8, 11, 12, 13, 14], [], [], [8, 11, 12, 13, 14]⟩
  | 11 => ⟨[8, 11, 12, 13, 14, 15, 16, 17], [8, 11, 12, 13, 14, 16], [], [], [8, 11, 12, 13, 14, 16]⟩
  | 12 => ⟨[8, 11, 12, 13, 14, 15, 16, 17, 18, 19], [8, 11, 12, 13, 14, 16, 18], [], [], [8, 11, 12, 13, 14, 16, 18]⟩
  | 13 => ⟨[8, 11, 13, 14, 15, 16, 17, 18, 19, 20, 21], [8, 11, 13, 14, 16, 18, 20], [], [], [8, 11, 13, 14, 16, 18, 20]⟩
  | 14 => ⟨[8, 11, 13, 14, 15, 16, 17, 18, 19, 20, 21, 22, 23], [8, 11, 13, 14, 16, 18, 20, 22], [], [], [8, 11, 13, 14, 16, 18, 20, 22]⟩
  | 15 => ⟨[8, 14, 15, 16, 17, 18, 19, 20, 21, 22, 23, 24, 25], [8, 14, 16, 18, 20, 22, 24], [], [], [8, 14, 16, 18, 20, 22, 24]⟩
  | 16 => ⟨[6], [], [], [], []⟩
  | _ => ⟨[], [], [], [], []⟩
noncomputable abbrev yG : Cx := ⟨Tryd.prog, ⟨id, yw, yz⟩, yB⟩
theorem Wn {args : List PV} {r : PV} (ha : args.length = 3) (h : awp yG Zd (zQ Tryd.prog [.tmp 6] r []) (zO args [])) : PC Tryd.prog 5 args r :=
  zJ (X := yG) mixed Tryd.func5 (c := Zd) (by kernel_rfl) (by kernel_rfl) (rs := [.tmp 6]) (by kernel_rfl) (by kernel_rfl) (by rw [ha]; decide) h
attribute [go_sem] XU Xx J6 ji jk jl YJ YC YL ab5 abe abD ZO Qe Z0 aaf Yz YI acw abN acn acg acu acp YV YF aae Xz Xg Xy aai aah YO aas YX aac Y1 aaj aab yZ yV yO WA WQ Wu XX XW XE VM VO VG XY XB XH JJ JM JL jO jQ jV yH yQ yS YT aal Yx ad7 ad8 adR Qm Qi ZX yI yX y7 Qg ZY ZN acr aa8 abF ZT ZQ Qf aad YN aak YZ aan aaa Kv Km KM WI WB WO Xa Xk Xw XL XT Xf XK J7 Xu ym yn yA acj abA abp Yy Y8 YE adK aec adN yP Zb y8 kZ vk vB abK abf abk Qq Qr Qp We QZ QX Q9 Q5 QY yK yF yL Wv WG WE Wm Q8 Wi WM Ww WC jA jw jF Vj Ve K4 aaq YG Y9 yB yw yz ty3 ty4 ty5 ty9 auo aug aue auj atJ auf aup auk aur auc aui aum auq aus aun aul atO ate atU asU atS at7 atE zt.xE zg.xE za.xE zD.xE qx.xE qP.xE zo.xE jB.xE pvL
theorem pvE : (∀ x : zt, x.pv = .agg [.int .i64 x.Text, .int .i64 x.Marks, .int .i64 x.zu, .int .i64 x.In]) ∧ (∀ x : zg, x.pv = .agg [.str x.Name, .str x.Value]) ∧ (∀ x : za, x.pv = .agg [.str x.Kind, .str x.Text, .list 1 (x.Marks.map PV.str), .list 2 (x.zu.map zg.pv), .list 5 (x.Kids.map za.pv)]) ∧ (∀ x : zD, x.pv = .agg [.int .u8 x.Kind, .int .i64 x.From, .int .i64 x.To, .list 5 (x.wM.map za.pv), .str x.Name, .str x.Value]) ∧ (∀ x : qx, x.pv = .agg [.list 1 (x.path.map (PV.int .i64)), .str x.in_.Kind, .str x.in_.Text, .list 1 (x.in_.Marks.map PV.str), .list 2 (x.in_.zu.map zg.pv), .list 5 (x.in_.Kids.map za.pv), .int .i64 x.from_, .int .i64 x.to_]) ∧ (∀ x : qP, x.pv = .agg [.list 1 (x.Path.map (PV.int .i64)), .int .i64 x.Index, .int .i64 x.Offset]) ∧ (∀ x : zo, x.pv = .agg [.int .i64 x.Pos, .int .i64 x.Old, .int .i64 x.New]) ∧ (∀ x : jB, x.pv = .agg [.int .u8 x.s.Kind, .int .i64 x.s.From, .int .i64 x.s.To, .list 5 (x.s.wM.map za.pv), .str x.s.Name, .str x.s.Value, .list 3 (x.changed.map zo.pv)]) ∧ (∀ (α : Type) (sz : Nat) (f : α → PV) (l : List α), pvL sz f l = .list sz (l.map f)) :=
  ⟨zt.xE, zg.xE, za.xE, zD.xE, qx.xE, qP.xE, zo.xE, jB.xE, fun _ _ _ _ => rfl⟩
theorem lsE {α β : Type} (f : α → β) : (∀ a l, List.map f (a :: l) = f a :: List.map f l) ∧ List.map f [] = [] ∧ (∀ a b, List.map f (a ++ b) = List.map f a ++ List.map f b) :=
  ⟨fun _ _ => rfl, rfl, fun a b => List.map_append⟩
end Go.Proofs.YtclohbgnaopjfaaDoor
