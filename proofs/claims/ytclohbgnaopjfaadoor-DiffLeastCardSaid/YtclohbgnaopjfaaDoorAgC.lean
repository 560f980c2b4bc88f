/- Texts of the proof of diffLeastCard -/
import Derived.Test.YtclohbgnaopjfaaDoorAgT
import Derived.Test.YtclohbgnaopjfaaDoorAwT
namespace Go.Proofs.YtclohbgnaopjfaaDoor
set_option linter.unusedSimpArgs false
set_option linter.unusedVariables false
open Go
set_option maxRecDepth 100000
noncomputable def abd : Code := (Tryd.f58.body).getD .skip
def YK : List (Nat × Nf) := []
def Yq : List (Nat × List Nat) := []
def YH : Nat → Ann
 | 0 => ⟨[1], [1], [], [], [1]⟩
 | 1 => ⟨[2], [], [], [], []⟩
 | _ => ⟨[], [], [], [], []⟩
noncomputable abbrev aaT : Cx := ⟨Tryd.prog, ⟨id, YK, Yq⟩, YH⟩
theorem aci {args : List PV} {r : PV} (ha : args.length = 1) (h : awp aaT abd (zS Tryd.prog [.tmp 2] r []) (zQ args [])) : PC Tryd.prog 58 args r :=
 zK (X := aaT) mixed Tryd.func58 (c := abd) (by kernel_rfl) (by kernel_rfl) (rs := [.tmp 2]) (by kernel_rfl) (by kernel_rfl) (by rw [ha]; decide) h
noncomputable def jV : Code := (Tryd.f63.body).getD .skip
def jM : List (Nat × Nf) := []
def jL : List (Nat × List Nat) := []
def jN : Nat → Ann
 | 0 => ⟨[0, 2], [], [], [], []⟩
 | 1 => ⟨[2, 4], [4], [], [], [4]⟩
 | 2 => ⟨[2, 4, 6], [4], [], [], [4]⟩
 | 3 => ⟨[2, 4], [4], [], [], [4]⟩
 | 4 => ⟨[2], [], [], [], []⟩
 | _ => ⟨[], [], [], [], []⟩
noncomputable abbrev jX : Cx := ⟨Tryd.prog, ⟨id, jM, jL⟩, jN⟩
theorem Zc {args : List PV} {r : PV} (ha : args.length = 1) (h : awp jX jV (zS Tryd.prog [.tmp 2] r []) (zQ args [])) : PC Tryd.prog 63 args r :=
 zK (X := jX) mixed Tryd.func63 (c := jV) (by kernel_rfl) (by kernel_rfl) (rs := [.tmp 2]) (by kernel_rfl) (by kernel_rfl) (by rw [ha]; decide) h
noncomputable def aeM : Code := (Tryd.f34.body).getD .skip
def acp : List (Nat × Nf) := []
def acQ : List (Nat × List Nat) := []
def acv : Nat → Ann
 | 0 => ⟨[1], [1], [], [], [1]⟩
 | 1 => ⟨[1, 4], [1], [], [], [1]⟩
 | 2 => ⟨[2], [], [], [], []⟩
 | 3 => ⟨[2], [], [], [], []⟩
 | _ => ⟨[], [], [], [], []⟩
noncomputable abbrev afh : Cx := ⟨Tryd.prog, ⟨id, acp, acQ⟩, acv⟩
theorem afx {args : List PV} {r : PV} (ha : args.length = 1) (h : awp afh aeM (zS Tryd.prog [.tmp 2] r []) (zQ args [])) : PC Tryd.prog 34 args r :=
 zK (X := afh) mixed Tryd.func34 (c := aeM) (by kernel_rfl) (by kernel_rfl) (rs := [.tmp 2]) (by kernel_rfl) (by kernel_rfl) (by rw [ha]; decide) h
noncomputable def adw : Code := (Tryd.f27.body).getD .skip
def abg : List (Nat × Nf) := []
def aa4 : List (Nat × List Nat) := []
def aby : Nat → Ann
 | 0 => ⟨[0], [], [], [], []⟩
 | 1 => ⟨[0, 3], [], [], [], []⟩
 | 2 => ⟨[3, 6, 7, 8], [], [], [], []⟩
 | 3 => ⟨[3, 6, 7, 8, 9], [], [], [], []⟩
 | 4 => ⟨[3, 5, 6, 7, 8], [5], [], [], [5]⟩
 | 5 => ⟨[3, 6, 7, 8], [], [], [], []⟩
 | 6 => ⟨[3, 6, 7, 8], [], [], [], []⟩
 | 7 => ⟨[2], [], [], [], []⟩
 | _ => ⟨[], [], [], [], []⟩
noncomputable abbrev acJ : Cx := ⟨Tryd.prog, ⟨id, abg, aa4⟩, aby⟩
theorem aep {args : List PV} {r : PV} (ha : args.length = 1) (h : awp acJ adw (zS Tryd.prog [.tmp 2] r []) (zQ args [])) : PC Tryd.prog 27 args r :=
 zK (X := acJ) mixed Tryd.func27 (c := adw) (by kernel_rfl) (by kernel_rfl) (rs := [.tmp 2]) (by kernel_rfl) (by kernel_rfl) (by rw [ha]; decide) h
noncomputable def QU : Code := (Tryd.f42.body).getD .skip
def QB : List (Nat × Nf) := []
def QE : List (Nat × List Nat) := []
def QK : Nat → Ann
 | 0 => ⟨[0, 1], [], [], [], []⟩
 | 1 => ⟨[0, 1, 10], [], [], [], []⟩
 | 2 => ⟨[4], [], [], [], []⟩
 | 3 => ⟨[0, 1, 12, 13], [], [], [], []⟩
 | 4 => ⟨[0, 1, 12, 13, 14], [], [], [], []⟩
 | 5 => ⟨[0, 1, 5, 12, 13], [], [], [], []⟩
 | 6 => ⟨[0, 1, 12, 13, 24], [], [], [], []⟩
 | 7 => ⟨[4], [], [], [], []⟩
 | 8 => ⟨[0, 1, 12, 13], [], [], [], []⟩
 | 9 => ⟨[4], [], [], [], []⟩
 | _ => ⟨[], [], [], [], []⟩
noncomputable abbrev QW : Cx := ⟨Tryd.prog, ⟨id, QB, QE⟩, QK⟩
theorem VK {args : List PV} {r : PV} (ha : args.length = 2) (h : awp QW QU (zS Tryd.prog [.tmp 4] r []) (zQ args [])) : PC Tryd.prog 42 args r :=
 zK (X := QW) mixed Tryd.func42 (c := QU) (by kernel_rfl) (by kernel_rfl) (rs := [.tmp 4]) (by kernel_rfl) (by kernel_rfl) (by rw [ha]; decide) h
noncomputable def adx : Code := (Tryd.f104.body).getD .skip
def aaD : List (Nat × Nf) := []
def aau : List (Nat × List Nat) := []
def abn : Nat → Ann
 | 0 => ⟨[2, 3], [2, 3], [], [], [2, 3]⟩
 | 1 => ⟨[4], [], [], [], []⟩
 | _ => ⟨[], [], [], [], []⟩
noncomputable abbrev adK : Cx := ⟨Tryd.prog, ⟨id, aaD, aau⟩, abn⟩
theorem aeu {args : List PV} {r : PV} (ha : args.length = 2) (h : awp adK adx (zS Tryd.prog [.tmp 4] r []) (zQ args [])) : PC Tryd.prog 104 args r :=
 zK (X := adK) mixed Tryd.func104 (c := adx) (by kernel_rfl) (by kernel_rfl) (rs := [.tmp 4]) (by kernel_rfl) (by kernel_rfl) (by rw [ha]; decide) h
noncomputable def afk : Code := (Tryd.f80.body).getD .skip
def acV : List (Nat × Nf) := []
def acO : List (Nat × List Nat) := []
def adq : Nat → Ann
 | 0 => ⟨[0], [], [], [], []⟩
 | 1 => ⟨[0, 3], [], [], [], []⟩
 | 2 => ⟨[2], [], [], [], []⟩
 | _ => ⟨[], [], [], [], []⟩
noncomputable abbrev ae6 : Cx := ⟨Tryd.prog, ⟨id, acV, acO⟩, adq⟩
theorem afG {args : List PV} {r : PV} (ha : args.length = 1) (h : awp ae6 afk (zS Tryd.prog [.tmp 2] r []) (zQ args [])) : PC Tryd.prog 80 args r :=
 zK (X := ae6) mixed Tryd.func80 (c := afk) (by kernel_rfl) (by kernel_rfl) (rs := [.tmp 2]) (by kernel_rfl) (by kernel_rfl) (by rw [ha]; decide) h
noncomputable def ae0 : Code := (Tryd.f111.body).getD .skip
def adg : List (Nat × Nf) := []
def acr : List (Nat × List Nat) := []
def acd : Nat → Ann
 | 0 => ⟨[0], [], [], [], []⟩
 | 1 => ⟨[0, 5, 6, 7], [], [], [], []⟩
 | 2 => ⟨[0, 5, 6, 7, 8], [], [], [], []⟩
 | 3 => ⟨[0, 3, 4, 5, 6, 7], [], [], [], []⟩
 | 4 => ⟨[0, 5, 6, 7, 27], [], [], [], []⟩
 | 5 => ⟨[2], [], [], [], []⟩
 | 6 => ⟨[0, 5, 6, 7], [], [], [], []⟩
 | 7 => ⟨[2], [], [], [], []⟩
 | _ => ⟨[], [], [], [], []⟩
noncomputable abbrev afp : Cx := ⟨Tryd.prog, ⟨id, adg, acr⟩, acd⟩
theorem afy {args : List PV} {r : PV} (ha : args.length = 1) (h : awp afp ae0 (zS Tryd.prog [.tmp 2] r []) (zQ args [])) : PC Tryd.prog 111 args r :=
 zK (X := afp) mixed Tryd.func111 (c := ae0) (by kernel_rfl) (by kernel_rfl) (rs := [.tmp 2]) (by kernel_rfl) (by kernel_rfl) (by rw [ha]; decide) h
noncomputable def ack : Code := (Tryd.f81.body).getD .skip
def abx : List (Nat × Nf) := []
def aaR : List (Nat × List Nat) := []
def aaX : Nat → Ann
 | 0 => ⟨[0], [], [], [], []⟩
 | 1 => ⟨[2], [], [], [], []⟩
 | _ => ⟨[], [], [], [], []⟩
noncomputable abbrev adl : Cx := ⟨Tryd.prog, ⟨id, abx, aaR⟩, aaX⟩
theorem ad6 {args : List PV} {r : PV} (ha : args.length = 1) (h : awp adl ack (zS Tryd.prog [.tmp 2] r []) (zQ args [])) : PC Tryd.prog 81 args r :=
 zK (X := adl) mixed Tryd.func81 (c := ack) (by kernel_rfl) (by kernel_rfl) (rs := [.tmp 2]) (by kernel_rfl) (by kernel_rfl) (by rw [ha]; decide) h
noncomputable def aa9 : Code := (Tryd.f93.body).getD .skip
def YC : List (Nat × Nf) := []
def X6 : List (Nat × List Nat) := []
def X7 : Nat → Ann
 | 0 => ⟨[1], [1], [], [], [1]⟩
 | 1 => ⟨[1, 9], [1], [], [], [1]⟩
 | 2 => ⟨[2], [], [], [], []⟩
 | 3 => ⟨[1, 3], [1, 3], [.thaw 3 3 1], [], [1, 3]⟩
 | 4 => ⟨[1, 3, 34, 35, 36], [1, 3], [], [], [1, 3]⟩
 | 5 => ⟨[1, 3, 34, 35, 36, 37], [1, 3], [], [], [1, 3]⟩
 | 6 => ⟨[1, 3, 5, 34, 35, 36], [1, 3, 5], [], [], [1, 3, 5]⟩
 | 7 => ⟨[1, 3, 5, 34, 35, 36, 43], [1, 3, 5], [], [], [1, 3, 5]⟩
 | 8 => ⟨[2], [], [], [], []⟩
 | 9 => ⟨[1, 3, 34, 35, 36], [1, 3], [], [], [1, 3]⟩
 | 10 => ⟨[1, 3, 34, 35, 36], [1, 3], [], [], [1, 3]⟩
 | 11 => ⟨[1, 69], [1], [], [], [1]⟩
 | 12 => ⟨[2], [], [], [], []⟩
 | 13 => ⟨[1, 71, 72, 73], [1], [], [], [1]⟩
 | 14 => ⟨[1, 71, 72, 73, 74], [1], [], [], [1]⟩
 | 15 => ⟨[1, 6, 7, 71, 72, 73], [1, 7], [], [], [1, 7]⟩
 | 16 => ⟨[1, 71, 72, 73, 94], [1], [], [], [1]⟩
 | 17 => ⟨[2], [], [], [], []⟩
 | 18 => ⟨[1, 71, 72, 73], [1], [], [], [1]⟩
 | 19 => ⟨[2], [], [], [], []⟩
 | _ => ⟨[], [], [], [], []⟩
noncomputable abbrev aav : Cx := ⟨Tryd.prog, ⟨id, YC, X6⟩, X7⟩
theorem acZ {args : List PV} {r : PV} (ha : args.length = 1) (h : awp aav aa9 (zS Tryd.prog [.tmp 2] r []) (zQ args [])) : PC Tryd.prog 93 args r :=
 zK (X := aav) mixed Tryd.func93 (c := aa9) (by kernel_rfl) (by kernel_rfl) (rs := [.tmp 2]) (by kernel_rfl) (by kernel_rfl) (by rw [ha]; decide) h
noncomputable def ac6 : Code := (Tryd.f94.body).getD .skip
def abt : List (Nat × Nf) := []
def abw : List (Nat × List Nat) := []
def aaN : Nat → Ann
 | 0 => ⟨[1], [1], [], [], [1]⟩
 | 1 => ⟨[1, 7], [1], [], [], [1]⟩
 | 2 => ⟨[2], [], [], [], []⟩
 | 3 => ⟨[1, 3], [1], [], [], [1]⟩
 | 4 => ⟨[3, 9, 10, 11], [], [], [], []⟩
 | 5 => ⟨[3, 9, 10, 11, 12], [], [], [], []⟩
 | 6 => ⟨[3, 5, 9, 10, 11], [5], [], [], [5]⟩
 | 7 => ⟨[3, 9, 10, 11], [], [], [], []⟩
 | 8 => ⟨[3, 9, 10, 11], [], [], [], []⟩
 | 9 => ⟨[2], [], [], [], []⟩
 | _ => ⟨[], [], [], [], []⟩
noncomputable abbrev acj : Cx := ⟨Tryd.prog, ⟨id, abt, abw⟩, aaN⟩
theorem aex {args : List PV} {r : PV} (ha : args.length = 1) (h : awp acj ac6 (zS Tryd.prog [.tmp 2] r []) (zQ args [])) : PC Tryd.prog 94 args r :=
 zK (X := acj) mixed Tryd.func94 (c := ac6) (by kernel_rfl) (by kernel_rfl) (rs := [.tmp 2]) (by kernel_rfl) (by kernel_rfl) (by rw [ha]; decide) h
noncomputable def acw : Code := (Tryd.f64.body).getD .skip
def aaG : List (Nat × Nf) := []
def aaH : List (Nat × List Nat) := []
def abl : Nat → Ann
 | 0 => ⟨[1], [1], [], [], [1]⟩
 | 1 => ⟨[1, 3], [1], [], [], [1]⟩
 | 2 => ⟨[2], [], [], [], []⟩
 | 3 => ⟨[1, 7], [1], [], [], [1]⟩
 | 4 => ⟨[2], [], [], [], []⟩
 | 5 => ⟨[11], [], [], [], []⟩
 | 6 => ⟨[2], [], [], [], []⟩
 | 7 => ⟨[2], [], [], [], []⟩
 | _ => ⟨[], [], [], [], []⟩
noncomputable abbrev aca : Cx := ⟨Tryd.prog, ⟨id, aaG, aaH⟩, abl⟩
theorem adP {args : List PV} {r : PV} (ha : args.length = 1) (h : awp aca acw (zS Tryd.prog [.tmp 2] r []) (zQ args [])) : PC Tryd.prog 64 args r :=
 zK (X := aca) mixed Tryd.func64 (c := acw) (by kernel_rfl) (by kernel_rfl) (rs := [.tmp 2]) (by kernel_rfl) (by kernel_rfl) (by rw [ha]; decide) h
noncomputable def ab2 : Code := (Tryd.f36.body).getD .skip
def abq : List (Nat × Nf) := []
def aaU : List (Nat × List Nat) := []
def aay : Nat → Ann
 | 0 => ⟨[1], [1], [], [], [1]⟩
 | 1 => ⟨[2], [], [], [], []⟩
 | _ => ⟨[], [], [], [], []⟩
noncomputable abbrev acW : Cx := ⟨Tryd.prog, ⟨id, abq, aaU⟩, aay⟩
theorem adU {args : List PV} {r : PV} (ha : args.length = 1) (h : awp acW ab2 (zS Tryd.prog [.tmp 2] r []) (zQ args [])) : PC Tryd.prog 36 args r :=
 zK (X := acW) mixed Tryd.func36 (c := ab2) (by kernel_rfl) (by kernel_rfl) (rs := [.tmp 2]) (by kernel_rfl) (by kernel_rfl) (by rw [ha]; decide) h
noncomputable def YD : Code := (Tryd.f66.body).getD .skip
def XI : List (Nat × Nf) := []
def XN : List (Nat × List Nat) := []
def XP : Nat → Ann
 | 0 => ⟨[2, 3], [2, 3], [], [], [2, 3]⟩
 | 1 => ⟨[4], [], [], [], []⟩
 | _ => ⟨[], [], [], [], []⟩
noncomputable abbrev Y2 : Cx := ⟨Tryd.prog, ⟨id, XI, XN⟩, XP⟩
theorem abD {args : List PV} {r : PV} (ha : args.length = 2) (h : awp Y2 YD (zS Tryd.prog [.tmp 4] r []) (zQ args [])) : PC Tryd.prog 66 args r :=
 zK (X := Y2) mixed Tryd.func66 (c := YD) (by kernel_rfl) (by kernel_rfl) (rs := [.tmp 4]) (by kernel_rfl) (by kernel_rfl) (by rw [ha]; decide) h
noncomputable def vk : Code := (Tryd.f67.body).getD .skip
def kZ : List (Nat × Nf) := []
def ve : List (Nat × List Nat) := []
def kX : Nat → Ann
 | 0 => ⟨[0, 1, 2], [], [], [], []⟩
 | 1 => ⟨[0, 1, 2, 14], [], [], [], []⟩
 | 2 => ⟨[6], [], [], [], []⟩
 | 3 => ⟨[1, 2, 15, 16, 17], [], [], [], []⟩
 | 4 => ⟨[1, 2, 15, 16, 17, 18], [], [], [], []⟩
 | 5 => ⟨[1, 2, 7, 8, 15, 16, 17], [8], [], [], [8]⟩
 | 6 => ⟨[1, 2, 8, 9, 15, 16, 17], [8, 9], [], [], [8, 9]⟩
 | 7 => ⟨[1, 2, 15, 16, 17, 30], [], [], [], []⟩
 | 8 => ⟨[6], [], [], [], []⟩
 | 9 => ⟨[1, 2, 15, 16, 17], [], [], [], []⟩
 | 10 => ⟨[6], [], [], [], []⟩
 | _ => ⟨[], [], [], [], []⟩
noncomputable abbrev vo : Cx := ⟨Tryd.prog, ⟨id, kZ, ve⟩, kX⟩
theorem xI {args : List PV} {r : PV} (ha : args.length = 3) (h : awp vo vk (zS Tryd.prog [.tmp 6] r []) (zQ args [])) : PC Tryd.prog 67 args r :=
 zK (X := vo) mixed Tryd.func67 (c := vk) (by kernel_rfl) (by kernel_rfl) (rs := [.tmp 6]) (by kernel_rfl) (by kernel_rfl) (by rw [ha]; decide) h
noncomputable def acT : Code := (Tryd.f39.body).getD .skip
def aa5 : List (Nat × Nf) := []
def aaM : List (Nat × List Nat) := []
def aaO : Nat → Ann
 | 0 => ⟨[2, 3], [2, 3], [], [], [2, 3]⟩
 | 1 => ⟨[2, 3, 5], [2, 3], [], [], [2, 3]⟩
 | 2 => ⟨[4], [], [], [], []⟩
 | _ => ⟨[], [], [], [], []⟩
noncomputable abbrev acs : Cx := ⟨Tryd.prog, ⟨id, aa5, aaM⟩, aaO⟩
theorem ad9 {args : List PV} {r : PV} (ha : args.length = 2) (h : awp acs acT (zS Tryd.prog [.tmp 4] r []) (zQ args [])) : PC Tryd.prog 39 args r :=
 zK (X := acs) mixed Tryd.func39 (c := acT) (by kernel_rfl) (by kernel_rfl) (rs := [.tmp 4]) (by kernel_rfl) (by kernel_rfl) (by rw [ha]; decide) h
noncomputable def Qj : Code := (Tryd.f43.body).getD .skip
def ZI : List (Nat × Nf) := []
def Zw : List (Nat × List Nat) := []
def Zn : Nat → Ann
 | 0 => ⟨[0, 1], [], [], [], []⟩
 | 1 => ⟨[0, 1, 10], [], [], [], []⟩
 | 2 => ⟨[4], [], [], [], []⟩
 | 3 => ⟨[0, 1, 12, 13], [], [], [], []⟩
 | 4 => ⟨[0, 1, 12, 13, 14], [], [], [], []⟩
 | 5 => ⟨[0, 1, 5, 12, 13], [], [], [], []⟩
 | 6 => ⟨[0, 1, 12, 13, 24], [], [], [], []⟩
 | 7 => ⟨[4], [], [], [], []⟩
 | 8 => ⟨[0, 1, 12, 13], [], [], [], []⟩
 | 9 => ⟨[4], [], [], [], []⟩
 | _ => ⟨[], [], [], [], []⟩
noncomputable abbrev Qc : Cx := ⟨Tryd.prog, ⟨id, ZI, Zw⟩, Zn⟩
theorem KN {args : List PV} {r : PV} (ha : args.length = 2) (h : awp Qc Qj (zS Tryd.prog [.tmp 4] r []) (zQ args [])) : PC Tryd.prog 43 args r :=
 zK (X := Qc) mixed Tryd.func43 (c := Qj) (by kernel_rfl) (by kernel_rfl) (rs := [.tmp 4]) (by kernel_rfl) (by kernel_rfl) (by rw [ha]; decide) h
noncomputable def vW : Code := (Tryd.f44.body).getD .skip
def vR : List (Nat × Nf) := []
def vM : List (Nat × List Nat) := []
def vQ : Nat → Ann
 | 0 => ⟨[0, 1, 2], [], [], [], []⟩
 | 1 => ⟨[0, 1, 2, 14], [], [], [], []⟩
 | 2 => ⟨[6], [], [], [], []⟩
 | 3 => ⟨[1, 2, 15, 16, 17], [], [], [], []⟩
 | 4 => ⟨[1, 2, 15, 16, 17, 18], [], [], [], []⟩
 | 5 => ⟨[1, 2, 7, 8, 15, 16, 17], [8], [], [], [8]⟩
 | 6 => ⟨[1, 2, 8, 9, 15, 16, 17], [8, 9], [], [], [8, 9]⟩
 | 7 => ⟨[1, 2, 15, 16, 17, 30], [], [], [], []⟩
 | 8 => ⟨[6], [], [], [], []⟩
 | 9 => ⟨[1, 2, 15, 16, 17], [], [], [], []⟩
 | 10 => ⟨[6], [], [], [], []⟩
 | _ => ⟨[], [], [], [], []⟩
noncomputable abbrev vX : Cx := ⟨Tryd.prog, ⟨id, vR, vM⟩, vQ⟩
theorem yg {args : List PV} {r : PV} (ha : args.length = 3) (h : awp vX vW (zS Tryd.prog [.tmp 6] r []) (zQ args [])) : PC Tryd.prog 44 args r :=
 zK (X := vX) mixed Tryd.func44 (c := vW) (by kernel_rfl) (by kernel_rfl) (rs := [.tmp 6]) (by kernel_rfl) (by kernel_rfl) (by rw [ha]; decide) h
noncomputable def afi : Code := (Tryd.f15.body).getD .skip
def acY : List (Nat × Nf) := []
def ab6 : List (Nat × List Nat) := []
def acH : Nat → Ann
 | 0 => ⟨[2, 3], [2, 3], [], [], [2, 3]⟩
 | 1 => ⟨[4], [], [], [], []⟩
 | _ => ⟨[], [], [], [], []⟩
noncomputable abbrev aeR : Cx := ⟨Tryd.prog, ⟨id, acY, ab6⟩, acH⟩
theorem afH {args : List PV} {r : PV} (ha : args.length = 2) (h : awp aeR afi (zS Tryd.prog [.tmp 4] r []) (zQ args [])) : PC Tryd.prog 15 args r :=
 zK (X := aeR) mixed Tryd.func15 (c := afi) (by kernel_rfl) (by kernel_rfl) (rs := [.tmp 4]) (by kernel_rfl) (by kernel_rfl) (by rw [ha]; decide) h
noncomputable def WY : Code := (Tryd.f68.body).getD .skip
def Q6 : List (Nat × Nf) := []
def Q9 : List (Nat × List Nat) := [(39, [1000]), (40, [1000]), (41, [1000]), (43, [1000]), (44, [1000]), (45, [1000]), (47, [3]), (48, [3]), (50, [1000]), (51, [1000]), (52, [1000]), (53, [1000]), (55, []), (56, []), (57, []), (60, [59, 1002]), (61, [1000]), (62, [1000])]
def QS : Nat → Ann
 | 0 => ⟨[0, 8, 9, 10], [1000, 1001, 1002], [], [], [1000, 1001, 1002]⟩
 | 1 => ⟨[0, 8, 9, 10, 11], [1000, 1001, 1002], [], [], [1000, 1001, 1002]⟩
 | 2 => ⟨[0, 2, 3, 8, 9, 10], [3, 1000, 1001, 1002], [], [], [3, 1000, 1001, 1002]⟩
 | 3 => ⟨[0, 2, 3, 8, 9, 10, 36], [3, 1000, 1001, 1002], [], [], [3, 1000, 1001, 1002]⟩
 | 4 => ⟨[0, 8, 9, 10], [1000, 1001, 1002], [], [], [1000, 1001, 1002]⟩
 | 5 => ⟨[0, 8, 9, 10], [1000, 1001, 1002], [], [], [1000, 1001, 1002]⟩
 | _ => ⟨[], [], [], [], []⟩
noncomputable abbrev WR : Cx := ⟨Tryd.prog, ⟨(fun d => if d = 58 then 0 else d), Q6, Q9⟩, QS⟩
theorem Ju {args : List PV} {es es' : List Ent} {r : PV} (ha : args.length = 1) (hl : es'.length = es.length) (he : (es'.all fun e => e.wL es.length) = true) (h : awp WR WY (zS Tryd.prog [] r es') (zQ args es)) : BC Tryd.prog 68 args es r es' :=
 ZV (X := WR) mixed Tryd.func68 (c := WY) (by kernel_rfl) (by kernel_rfl) (rs := []) (by kernel_rfl) (by kernel_rfl) (by rw [ha]; decide) hl (fun e h => List.all_eq_true.1 he e h) h
noncomputable def ajf : Code := (Tryd.f40.body).getD .skip
def ahr : List (Nat × Nf) := []
def ahK : List (Nat × List Nat) := [(151, [12]), (152, [12]), (153, [12]), (155, [12]), (156, [12]), (157, [12]), (159, [158, 394]), (160, [12]), (161, [12])]
def agr : Nat → Ann
 | 0 => ⟨[2, 3], [2, 3], [], [], [2, 3]⟩
 | 1 => ⟨[5], [12, 394, 399], [.KC 12 10 394 1, .KC 12 15 399 6], [], [12, 394, 399]⟩
 | 2 => ⟨[5], [12, 394, 399], [], [], [12, 394, 399]⟩
 | 3 => ⟨[5, 6, 7], [12, 394, 399], [], [], [12, 394, 399]⟩
 | 4 => ⟨[5, 6, 7], [12, 394, 399], [], [], [12, 394, 399]⟩
 | 5 => ⟨[5, 6, 7, 54], [12, 394, 399], [], [], [12, 394, 399]⟩
 | 6 => ⟨[5, 6, 7], [12, 394, 399], [], [], [12, 394, 399]⟩
 | 7 => ⟨[5, 6, 7, 8], [12, 394, 399], [], [], [12, 394, 399]⟩
 | 8 => ⟨[5, 6, 7, 8, 92], [12, 394, 399], [], [], [12, 394, 399]⟩
 | 9 => ⟨[5, 6, 7, 8], [12, 394, 399], [], [], [12, 394, 399]⟩
 | 10 => ⟨[5, 6, 7], [12, 394, 399], [], [], [12, 394, 399]⟩
 | 11 => ⟨[5, 6, 7, 148], [12, 394, 399], [], [], [12, 394, 399]⟩
 | 12 => ⟨[5, 6, 7], [12, 394, 399], [], [], [12, 394, 399]⟩
 | 13 => ⟨[5, 6, 7], [12, 394, 399], [], [], [12, 394, 399]⟩
 | 14 => ⟨[5], [12, 394, 399], [], [], [12, 394, 399]⟩
 | 15 => ⟨[4], [12, 399], [.nrm 4 [none, none, none, none, none, none, none, none, none, none, some 1, none, none, none, none, none]], [], [12, 399]⟩
 | _ => ⟨[], [], [], [], []⟩
noncomputable abbrev aiz : Cx := ⟨Tryd.prog, ⟨id, ahr, ahK⟩, agr⟩
theorem aic {args : List PV} {r : PV} (ha : args.length = 2) (h : awp aiz ajf (zS Tryd.prog [.tmp 4] r []) (zQ args [])) : PC Tryd.prog 40 args r :=
 zK (X := aiz) mixed Tryd.func40 (c := ajf) (by kernel_rfl) (by kernel_rfl) (rs := [.tmp 4]) (by kernel_rfl) (by kernel_rfl) (by rw [ha]; decide) h
noncomputable def Q5 : Code := (Tryd.f69.body).getD .skip
def QM : List (Nat × Nf) := []
def QI : List (Nat × List Nat) := []
def QP : Nat → Ann
 | 0 => ⟨[0], [5], [], [], [5]⟩
 | 1 => ⟨[0, 4], [5], [], [], [5]⟩
 | 2 => ⟨[2], [5], [], [], [5]⟩
 | 3 => ⟨[2], [5], [], [], [5]⟩
 | _ => ⟨[], [], [], [], []⟩
noncomputable abbrev Q4 : Cx := ⟨Tryd.prog, ⟨id, QM, QI⟩, QP⟩
theorem VI {args : List PV} {r : PV} (ha : args.length = 1) (h : awp Q4 Q5 (zS Tryd.prog [.tmp 2] r []) (zQ args [])) : PC Tryd.prog 69 args r :=
 zK (X := Q4) mixed Tryd.func69 (c := Q5) (by kernel_rfl) (by kernel_rfl) (rs := [.tmp 2]) (by kernel_rfl) (by kernel_rfl) (by rw [ha]; decide) h
noncomputable def ZZ : Code := (Tryd.f70.body).getD .skip
def ZJ : List (Nat × Nf) := []
def Zu : List (Nat × List Nat) := []
def Zo : Nat → Ann
 | 0 => ⟨[0], [5], [], [], [5]⟩
 | 1 => ⟨[0, 4], [5], [], [], [5]⟩
 | 2 => ⟨[2], [5], [], [], [5]⟩
 | 3 => ⟨[2], [5], [], [], [5]⟩
 | _ => ⟨[], [], [], [], []⟩
noncomputable abbrev Qd : Cx := ⟨Tryd.prog, ⟨id, ZJ, Zu⟩, Zo⟩
theorem KT {args : List PV} {r : PV} (ha : args.length = 1) (h : awp Qd ZZ (zS Tryd.prog [.tmp 2] r []) (zQ args [])) : PC Tryd.prog 70 args r :=
 zK (X := Qd) mixed Tryd.func70 (c := ZZ) (by kernel_rfl) (by kernel_rfl) (rs := [.tmp 2]) (by kernel_rfl) (by kernel_rfl) (by rw [ha]; decide) h
noncomputable def Qa : Code := (Tryd.f71.body).getD .skip
def Zl : List (Nat × Nf) := []
def ZC : List (Nat × List Nat) := []
def ZG : Nat → Ann
 | 0 => ⟨[0], [5], [], [], [5]⟩
 | 1 => ⟨[0, 4], [5], [], [], [5]⟩
 | 2 => ⟨[2], [5], [], [], [5]⟩
 | 3 => ⟨[2], [5], [], [], [5]⟩
 | _ => ⟨[], [], [], [], []⟩
noncomputable abbrev Z9 : Cx := ⟨Tryd.prog, ⟨id, Zl, ZC⟩, ZG⟩
theorem KQ {args : List PV} {r : PV} (ha : args.length = 1) (h : awp Z9 Qa (zS Tryd.prog [.tmp 2] r []) (zQ args [])) : PC Tryd.prog 71 args r :=
 zK (X := Z9) mixed Tryd.func71 (c := Qa) (by kernel_rfl) (by kernel_rfl) (rs := [.tmp 2]) (by kernel_rfl) (by kernel_rfl) (by rw [ha]; decide) h
noncomputable def aeZ : Code := (Tryd.f41.body).getD .skip
def ads : List (Nat × Nf) := [(32, [none, none, none, none, some 5])]
def adI : List (Nat × List Nat) := [(5, [1]), (6, [1]), (8, [1]), (9, [1]), (11, [1]), (12, [1]), (13, []), (14, [1]), (15, [1]), (16, [1])]
def ac4 : Nat → Ann
 | 0 => ⟨[1, 2], [1, 2], [.nrm 2 [none, none, some 1, some 2, some 5]], [], [1, 2]⟩
 | 1 => ⟨[1, 2], [1, 2, 13], [], [.ren 13 311], [1, 2, 13, 311]⟩
 | 2 => ⟨[1, 2, 18, 19, 20], [1, 2, 311], [], [.ren 311 18], [1, 2, 18, 311]⟩
 | 3 => ⟨[1, 2, 18, 19, 20, 21], [1, 2, 18], [], [], [1, 2, 18]⟩
 | 4 => ⟨[1, 2, 3, 4, 18, 19, 20], [1, 2, 4, 18], [], [], [1, 2, 4, 18]⟩
 | 5 => ⟨[1, 2, 18, 19, 20], [1, 2, 18], [], [], [1, 2, 18]⟩
 | 6 => ⟨[1, 2, 18, 19, 20], [1, 2, 18], [], [], [1, 2, 18]⟩
 | 7 => ⟨[2], [2], [], [], [2]⟩
 | _ => ⟨[], [], [], [], []⟩
noncomputable abbrev aeU : Cx := ⟨Tryd.prog, ⟨id, ads, adI⟩, ac4⟩
theorem afr {args : List PV} {r : PV} (ha : args.length = 1) (h : awp aeU aeZ (zS Tryd.prog [.cell 2 28] r []) (zQ args [])) : PC Tryd.prog 41 args r :=
 zK (X := aeU) mixed Tryd.func41 (c := aeZ) (by kernel_rfl) (by kernel_rfl) (rs := [.cell 2 28]) (by kernel_rfl) (by kernel_rfl) (by rw [ha]; decide) h
noncomputable def ac0 : Code := (Tryd.f13.body).getD .skip
def aaA : List (Nat × Nf) := []
def aaF : List (Nat × List Nat) := []
def aa0 : Nat → Ann
 | 0 => ⟨[2, 3], [2, 3], [], [], [2, 3]⟩
 | 1 => ⟨[2, 3, 23], [2, 3], [], [], [2, 3]⟩
 | 2 => ⟨[4, 5], [], [.nrm 4 [some 6]], [], []⟩
 | 3 => ⟨[6], [26, 526], [], [.ren 526 497], [26, 497, 526]⟩
 | 4 => ⟨[6, 36], [26, 497], [], [], [26, 497]⟩
 | 5 => ⟨[4, 5], [497], [], [.ren 497 4], [4, 497]⟩
 | 6 => ⟨[6, 7], [26, 497], [], [], [26, 497]⟩
 | 7 => ⟨[6, 7, 8], [26, 497], [], [], [26, 497]⟩
 | 8 => ⟨[6, 7, 8, 9], [26, 497], [], [], [26, 497]⟩
 | 9 => ⟨[4, 5], [497], [], [.ren 497 4], [4, 497]⟩
 | _ => ⟨[], [], [], [], []⟩
noncomputable abbrev acn : Cx := ⟨Tryd.prog, ⟨id, aaA, aaF⟩, aa0⟩
theorem adV {args : List PV} {r : PV} (ha : args.length = 2) (h : awp acn ac0 (zS Tryd.prog [.tmp 4, .tmp 5] r []) (zQ args [])) : PC Tryd.prog 13 args r :=
 zK (X := acn) mixed Tryd.func13 (c := ac0) (by kernel_rfl) (by kernel_rfl) (rs := [.tmp 4, .tmp 5]) (by kernel_rfl) (by kernel_rfl) (by rw [ha]; decide) h
noncomputable def Ke : Code := (Tryd.f11.body).getD .skip
def Q7 : List (Nat × Nf) := [(5, [none, none, some 1, some 2, some 5]), (7, [none, none, some 1, some 2, some 5]), (8, [none, none, some 1, some 2, some 5]), (10, [none, none, some 1, some 2, some 5]), (11, [none, none, some 1, some 2, some 5]), (13, [none, none, some 1, some 2, some 5]), (14, [none, none, some 1, some 2, some 5]), (16, [none, none, some 1, some 2, some 5])]
def QT : List (Nat × List Nat) := []
def Q3 : Nat → Ann
 | 0 => ⟨[], [], [], [], []⟩
 | 1 => ⟨[1], [1], [], [], [1]⟩
 | 2 => ⟨[1, 2], [1, 2], [], [], [1, 2]⟩
 | 3 => ⟨[3, 4], [], [], [], []⟩
 | 4 => ⟨[0], [], [], [], []⟩
 | _ => ⟨[], [], [], [], []⟩
noncomputable abbrev WT : Cx := ⟨Tryd.prog, ⟨id, Q7, QT⟩, Q3⟩
theorem Jw {args : List PV} {r : PV} (ha : args.length = 0) (h : awp WT Ke (zS Tryd.prog [.tmp 0] r []) (zQ args [])) : PC Tryd.prog 11 args r :=
 zK (X := WT) mixed Tryd.func11 (c := Ke) (by kernel_rfl) (by kernel_rfl) (rs := [.tmp 0]) (by kernel_rfl) (by kernel_rfl) (by rw [ha]; decide) h
noncomputable def Kt : Code := (Tryd.f29.body).getD .skip
def WI : List (Nat × Nf) := []
def W9 : List (Nat × List Nat) := []
def Ka : Nat → Ann
 | 0 => ⟨[0, 1], [], [], [], []⟩
 | 1 => ⟨[0, 1, 6], [], [], [], []⟩
 | 2 => ⟨[0, 1], [], [], [], []⟩
 | 3 => ⟨[4], [], [], [], []⟩
 | _ => ⟨[], [], [], [], []⟩
noncomputable abbrev Ky : Cx := ⟨Tryd.prog, ⟨id, WI, W9⟩, Ka⟩
theorem JD {args : List PV} {r : PV} (ha : args.length = 2) (h : awp Ky Kt (zS Tryd.prog [.tmp 4] r []) (zQ args [])) : PC Tryd.prog 29 args r :=
 zK (X := Ky) mixed Tryd.func29 (c := Kt) (by kernel_rfl) (by kernel_rfl) (rs := [.tmp 4]) (by kernel_rfl) (by kernel_rfl) (by rw [ha]; decide) h
noncomputable def Z7 : Code := (Tryd.f95.body).getD .skip
def ZF : List (Nat × Nf) := []
def Zq : List (Nat × List Nat) := []
def Zj : Nat → Ann
 | 0 => ⟨[0, 1], [], [], [], []⟩
 | 1 => ⟨[0, 1, 10], [], [], [], []⟩
 | 2 => ⟨[4], [], [], [], []⟩
 | 3 => ⟨[0, 1, 5], [], [], [], []⟩
 | 4 => ⟨[0, 1, 5, 14], [], [], [], []⟩
 | 5 => ⟨[0, 1, 5], [], [], [], []⟩
 | 6 => ⟨[0, 1, 5, 25], [], [], [], []⟩
 | 7 => ⟨[4], [], [], [], []⟩
 | 8 => ⟨[4], [], [], [], []⟩
 | _ => ⟨[], [], [], [], []⟩
noncomputable abbrev Z0 : Cx := ⟨Tryd.prog, ⟨id, ZF, Zq⟩, Zj⟩
theorem KX {args : List PV} {r : PV} (ha : args.length = 2) (h : awp Z0 Z7 (zS Tryd.prog [.tmp 4] r []) (zQ args [])) : PC Tryd.prog 95 args r :=
 zK (X := Z0) mixed Tryd.func95 (c := Z7) (by kernel_rfl) (by kernel_rfl) (rs := [.tmp 4]) (by kernel_rfl) (by kernel_rfl) (by rw [ha]; decide) h
noncomputable def Ve : Code := (Tryd.f65.body).getD .skip
def Kz : List (Nat × Nf) := []
def KE : List (Nat × List Nat) := [(65, [3]), (66, [3, 62]), (67, [5]), (69, [62, 68])]
def Kw : Nat → Ann
 | 0 => ⟨[0], [], [], [], []⟩
 | 1 => ⟨[0, 3], [3], [.thaw 3 3 5], [], [3]⟩
 | 2 => ⟨[0, 3, 4], [3], [], [], [3]⟩
 | 3 => ⟨[0, 3, 4, 10], [3], [], [], [3]⟩
 | 4 => ⟨[0, 3, 4], [3], [], [], [3]⟩
 | 5 => ⟨[0, 3, 4, 5], [3, 5], [], [], [3, 5]⟩
 | 6 => ⟨[0, 3, 4, 5, 6], [3, 5], [], [], [3, 5]⟩
 | 7 => ⟨[0, 3, 4, 5, 6, 27], [3, 5], [], [], [3, 5]⟩
 | 8 => ⟨[0, 3, 4, 5, 6, 52], [3, 5], [], [], [3, 5]⟩
 | 9 => ⟨[0, 3, 4, 5, 6], [3, 5], [], [], [3, 5]⟩
 | 10 => ⟨[0, 3, 4], [62], [], [.ren 62 3], [3, 62]⟩
 | 11 => ⟨[0, 3, 4], [3], [], [], [3]⟩
 | 12 => ⟨[2], [3], [], [.ren 3 2], [2, 3]⟩
 | _ => ⟨[], [], [], [], []⟩
noncomputable abbrev Vo : Cx := ⟨Tryd.prog, ⟨id, Kz, KE⟩, Kw⟩
theorem Xr {args : List PV} {r : PV} (ha : args.length = 1) (h : awp Vo Ve (zS Tryd.prog [.tmp 2] r []) (zQ args [])) : PC Tryd.prog 65 args r :=
 zK (X := Vo) mixed Tryd.func65 (c := Ve) (by kernel_rfl) (by kernel_rfl) (rs := [.tmp 2]) (by kernel_rfl) (by kernel_rfl) (by rw [ha]; decide) h
noncomputable def Kv : Code := (Tryd.f37.body).getD .skip
def WZ : List (Nat × Nf) := [(29, [none, none, some 1, some 2, none])]
def WO : List (Nat × List Nat) := []
def WK : Nat → Ann
 | 0 => ⟨[1, 2, 4], [2, 4], [.nrm 4 [none, none, some 1, some 2, some 5]], [], [2, 4]⟩
 | 1 => ⟨[1, 2, 4, 5], [2, 4, 8], [], [.ren 8 5], [2, 4, 5, 8]⟩
 | 2 => ⟨[1, 2, 4, 5, 6], [2, 4, 5, 9], [], [.ren 9 6], [2, 4, 5, 6, 9]⟩
 | 3 => ⟨[1, 4, 7], [4, 25], [], [.ren 25 7], [4, 7, 25]⟩
 | 4 => ⟨[4], [4], [], [], [4]⟩
 | _ => ⟨[], [], [], [], []⟩
noncomputable abbrev Kn : Cx := ⟨Tryd.prog, ⟨id, WZ, WO⟩, WK⟩
theorem JX {args : List PV} {r : PV} (ha : args.length = 2) (h : awp Kn Kv (zS Tryd.prog [.cell 4 28] r []) (zQ args [])) : PC Tryd.prog 37 args r :=
 zK (X := Kn) mixed Tryd.func37 (c := Kv) (by kernel_rfl) (by kernel_rfl) (rs := [.cell 4 28]) (by kernel_rfl) (by kernel_rfl) (by rw [ha]; decide) h
noncomputable def KJ : Code := (Tryd.f38.body).getD .skip
def WW : List (Nat × Nf) := []
def WU : List (Nat × List Nat) := []
def Kg : Nat → Ann
 | 0 => ⟨[1], [1], [], [], [1]⟩
 | 1 => ⟨[1, 7], [1], [], [], [1]⟩
 | 2 => ⟨[2], [], [], [], []⟩
 | 3 => ⟨[1, 3], [1], [], [], [1]⟩
 | 4 => ⟨[1, 3, 4], [1], [], [], [1]⟩
 | 5 => ⟨[1, 3, 4, 12], [1], [], [], [1]⟩
 | 6 => ⟨[1, 3, 4], [1], [], [], [1]⟩
 | 7 => ⟨[1, 3, 4], [1], [], [], [1]⟩
 | 8 => ⟨[2], [], [], [], []⟩
 | _ => ⟨[], [], [], [], []⟩
noncomputable abbrev Ku : Cx := ⟨Tryd.prog, ⟨id, WW, WU⟩, Kg⟩
theorem JG {args : List PV} {r : PV} (ha : args.length = 1) (h : awp Ku KJ (zS Tryd.prog [.tmp 2] r []) (zQ args [])) : PC Tryd.prog 38 args r :=
 zK (X := Ku) mixed Tryd.func38 (c := KJ) (by kernel_rfl) (by kernel_rfl) (rs := [.tmp 2]) (by kernel_rfl) (by kernel_rfl) (by rw [ha]; decide) h
noncomputable def Vt : Code := (Tryd.f12.body).getD .skip
def Ko : List (Nat × Nf) := [(14, [none, none, some 1, some 2, none]), (34, [none, none, none, some 2, some 5]), (62, [none, none, some 1, none, none]), (93, [none, none, some 1, some 2, none]), (171, [none, none, none, none, some 5]), (173, [none, none, some 1, some 2, some 5]), (177, [none, none, none, none, some 5])]
def KI : List (Nat × List Nat) := [(115, [12]), (116, [12]), (117, [114]), (118, [11]), (120, [114, 119]), (121, [12]), (123, [4]), (124, [4]), (126, [332]), (127, [122, 332]), (128, [12]), (130, [122, 129]), (131, [4]), (152, [11]), (153, [11]), (154, [4]), (155, [4]), (157, [332]), (158, [332]), (160, [159, 381]), (161, [11]), (500121, [12, 114]), (500131, [4, 122])]
def KF : Nat → Ann
 | 0 => ⟨[0, 2], [2], [.nrm 2 [none, none, some 1, some 2, some 5]], [], [2]⟩
 | 1 => ⟨[0, 2, 3], [2, 13], [], [.ren 13 3], [2, 3, 13]⟩
 | 2 => ⟨[0, 2, 3, 4], [2, 3, 4, 332], [.KC 4 4 332 5], [], [2, 3, 4, 332]⟩
 | 3 => ⟨[0, 2, 3, 4, 5], [2, 3, 4, 5, 332], [.thaw 5 5 5], [], [2, 3, 4, 5, 332]⟩
 | 4 => ⟨[0, 2, 3, 4, 5, 6], [2, 3, 4, 5, 332], [], [], [2, 3, 4, 5, 332]⟩
 | 5 => ⟨[0, 2, 3, 4, 5, 6, 22], [2, 3, 4, 5, 332], [], [], [2, 3, 4, 5, 332]⟩
 | 6 => ⟨[0, 2, 3, 4, 5, 6], [2, 3, 4, 5, 332], [], [], [2, 3, 4, 5, 332]⟩
 | 7 => ⟨[0, 2, 3, 4, 5, 6, 7], [2, 3, 4, 5, 7, 332, 351], [.KC 7 2 351 1], [], [2, 3, 4, 5, 7, 332, 351]⟩
 | 8 => ⟨[0, 2, 3, 4, 5, 6, 7, 42], [2, 3, 4, 5, 7, 332, 351], [], [], [2, 3, 4, 5, 7, 332, 351]⟩
 | 9 => ⟨[0, 2, 3, 4, 5, 6, 7], [2, 3, 4, 5, 7, 332, 351], [], [], [2, 3, 4, 5, 7, 332, 351]⟩
 | 10 => ⟨[0, 2, 3, 4, 5, 6, 7, 55], [2, 3, 4, 5, 7, 332, 351], [], [], [2, 3, 4, 5, 7, 332, 351]⟩
 | 11 => ⟨[0, 2, 3, 4, 5, 6, 7], [2, 3, 4, 5, 7, 332, 351], [], [], [2, 3, 4, 5, 7, 332, 351]⟩
 | 12 => ⟨[0, 2, 3, 4, 5, 6], [2, 3, 4, 5, 332], [], [], [2, 3, 4, 5, 332]⟩
 | 13 => ⟨[0, 2, 3, 4, 5, 6, 8], [2, 3, 4, 5, 332], [], [], [2, 3, 4, 5, 332]⟩
 | 14 => ⟨[0, 2, 3, 4, 5, 6, 8, 72], [2, 3, 4, 5, 332], [], [], [2, 3, 4, 5, 332]⟩
 | 15 => ⟨[0, 2, 3, 4, 6, 8, 9], [2, 3, 4, 9, 332], [], [], [2, 3, 4, 9, 332]⟩
 | 16 => ⟨[0, 2, 3, 4, 5, 6, 8, 9], [2, 3, 4, 5, 9, 332], [.thaw 5 5 5], [], [2, 3, 4, 5, 9, 332]⟩
 | 17 => ⟨[0, 2, 3, 4, 5, 6, 8, 9, 10], [2, 3, 4, 5, 9, 332], [], [], [2, 3, 4, 5, 9, 332]⟩
 | 18 => ⟨[0, 2, 3, 4, 5, 6, 8, 9, 10, 84], [2, 3, 4, 5, 9, 332], [], [], [2, 3, 4, 5, 9, 332]⟩
 | 19 => ⟨[0, 2, 3, 4, 5, 6], [2, 3, 4, 5, 332], [], [], [2, 3, 4, 5, 332]⟩
 | 20 => ⟨[0, 2, 3, 4, 5, 6, 8, 10, 11], [2, 3, 4, 5, 11, 92, 332], [], [.ren 92 381], [2, 3, 4, 5, 11, 92, 332, 381]⟩
 | 21 => ⟨[0, 2, 3, 4, 5, 6, 10, 11, 108], [2, 3, 4, 5, 11, 332, 381], [], [], [2, 3, 4, 5, 11, 332, 381]⟩
 | 22 => ⟨[0, 2, 3, 4, 5, 6, 10, 11, 12], [2, 3, 4, 5, 11, 12, 332, 381], [], [], [2, 3, 4, 5, 11, 12, 332, 381]⟩
 | 23 => ⟨[0, 2, 3, 4, 5, 6, 10, 12], [2, 3, 4, 5, 12, 332], [.nrm 12 [none, none, none, none, some 5]], [], [2, 3, 4, 5, 12, 332]⟩
 | 24 => ⟨[0, 2, 3, 4, 5, 6], [2, 3, 4, 5, 122], [], [.ren 122 332], [2, 3, 4, 5, 122, 332]⟩
 | 25 => ⟨[0, 2, 3, 4, 5, 6, 10, 11, 151], [2, 3, 4, 5, 11, 332, 381], [], [], [2, 3, 4, 5, 11, 332, 381]⟩
 | 26 => ⟨[0, 2, 3, 4, 5, 6, 10, 11], [2, 3, 4, 5, 11, 332, 381], [], [], [2, 3, 4, 5, 11, 332, 381]⟩
 | 27 => ⟨[0, 2, 3, 4, 5, 6, 11], [2, 3, 4, 5, 11, 162, 381], [], [.ren 162 332], [2, 3, 4, 5, 11, 162, 332, 381]⟩
 | 28 => ⟨[0, 2, 3, 4, 5, 6], [2, 3, 4, 5, 332], [], [], [2, 3, 4, 5, 332]⟩
 | 29 => ⟨[2], [2], [], [], [2]⟩
 | _ => ⟨[], [], [], [], []⟩
noncomputable abbrev Vr : Cx := ⟨Tryd.prog, ⟨id, Ko, KI⟩, KF⟩
theorem Xu {args : List PV} {r : PV} (ha : args.length = 1) (h : awp Vr Vt (zS Tryd.prog [.cell 2 28] r []) (zQ args [])) : PC Tryd.prog 12 args r :=
 zK (X := Vr) mixed Tryd.func12 (c := Vt) (by kernel_rfl) (by kernel_rfl) (rs := [.cell 2 28]) (by kernel_rfl) (by kernel_rfl) (by rw [ha]; decide) h
noncomputable def Vv : Code := (Tryd.f100.body).getD .skip
def KD : List (Nat × Nf) := []
def KH : List (Nat × List Nat) := []
def KA : Nat → Ann
 | 0 => ⟨[0], [5], [], [], [5]⟩
 | 1 => ⟨[0, 4], [5], [], [], [5]⟩
 | 2 => ⟨[2], [5], [], [], [5]⟩
 | 3 => ⟨[2], [5], [], [], [5]⟩
 | _ => ⟨[], [], [], [], []⟩
noncomputable abbrev Vn : Cx := ⟨Tryd.prog, ⟨id, KD, KH⟩, KA⟩
theorem Xy {args : List PV} {r : PV} (ha : args.length = 1) (h : awp Vn Vv (zS Tryd.prog [.tmp 2] r []) (zQ args [])) : PC Tryd.prog 100 args r :=
 zK (X := Vn) mixed Tryd.func100 (c := Vv) (by kernel_rfl) (by kernel_rfl) (rs := [.tmp 2]) (by kernel_rfl) (by kernel_rfl) (by rw [ha]; decide) h
noncomputable def abv : Code := (Tryd.f75.body).getD .skip
def X3 : List (Nat × Nf) := [(28, [none, none, some 1, some 2, some 5]), (38, [none, none, some 1, some 2, some 5])]
def Yi : List (Nat × List Nat) := []
def Yk : Nat → Ann
 | 0 => ⟨[1, 2, 4], [2, 4], [.nrm 4 [none, none, some 1, some 2, some 5]], [], [2, 4]⟩
 | 1 => ⟨[2, 4, 8, 9, 10], [2, 4], [], [], [2, 4]⟩
 | 2 => ⟨[2, 4, 8, 9, 10, 11], [2, 4], [], [], [2, 4]⟩
 | 3 => ⟨[2, 4, 7, 8, 9, 10], [2, 4], [], [], [2, 4]⟩
 | 4 => ⟨[2, 4, 7, 8, 9, 10, 27], [2, 4], [], [], [2, 4]⟩
 | 5 => ⟨[4, 5], [4], [], [], [4]⟩
 | 6 => ⟨[2, 4, 8, 9, 10], [2, 4], [], [], [2, 4]⟩
 | 7 => ⟨[2, 4, 8, 9, 10], [2, 4], [], [], [2, 4]⟩
 | 8 => ⟨[2, 4, 37], [2, 4], [], [], [2, 4]⟩
 | 9 => ⟨[4, 5], [4], [], [], [4]⟩
 | 10 => ⟨[4, 5], [4], [], [], [4]⟩
 | _ => ⟨[], [], [], [], []⟩
noncomputable abbrev abh : Cx := ⟨Tryd.prog, ⟨id, X3, Yi⟩, Yk⟩
theorem acm {args : List PV} {r : PV} (ha : args.length = 2) (h : awp abh abv (zS Tryd.prog [.cell 4 28, .tmp 5] r []) (zQ args [])) : PC Tryd.prog 75 args r :=
 zK (X := abh) mixed Tryd.func75 (c := abv) (by kernel_rfl) (by kernel_rfl) (rs := [.cell 4 28, .tmp 5]) (by kernel_rfl) (by kernel_rfl) (by rw [ha]; decide) h
noncomputable def XM : Code := (Tryd.f97.body).getD .skip
def JK : List (Nat × Nf) := [(24, [some 1, none, none]), (59, [some 1, none, none]), (65, [some 1, none, none]), (71, [some 1, none, none])]
def JH : List (Nat × List Nat) := []
def JB : Nat → Ann
 | 0 => ⟨[1, 2, 4], [2, 4], [.nrm 4 [some 1, none, none]], [], [2, 4]⟩
 | 1 => ⟨[1, 2, 4, 23], [2, 4], [], [], [2, 4]⟩
 | 2 => ⟨[4, 5], [4], [], [], [4]⟩
 | 3 => ⟨[1, 2, 4, 6], [2, 4, 6, 342], [.KC 6 0 342 1], [], [2, 4, 6, 342]⟩
 | 4 => ⟨[1, 2, 4, 6, 26, 27, 28], [2, 4, 6, 342], [], [], [2, 4, 6, 342]⟩
 | 5 => ⟨[1, 2, 4, 6, 26, 27, 28, 29], [2, 4, 6, 342], [], [], [2, 4, 6, 342]⟩
 | 6 => ⟨[1, 2, 4, 6, 7, 8, 26, 27, 28], [2, 4, 6, 8, 342], [], [], [2, 4, 6, 8, 342]⟩
 | 7 => ⟨[1, 2, 4, 6, 7, 8, 9, 26, 27, 28], [2, 4, 6, 8, 342], [], [], [2, 4, 6, 8, 342]⟩
 | 8 => ⟨[1, 2, 4, 6, 8], [2, 4, 6, 8, 342], [], [], [2, 4, 6, 8, 342]⟩
 | 9 => ⟨[1, 2, 4, 6], [2, 4, 6, 342], [], [], [2, 4, 6, 342]⟩
 | 10 => ⟨[1, 2, 4, 6, 7, 8, 9, 26, 27, 28, 44], [2, 4, 6, 8, 342], [], [], [2, 4, 6, 8, 342]⟩
 | 11 => ⟨[1, 2, 4, 6, 26, 27, 28], [2, 4, 6, 342], [], [], [2, 4, 6, 342]⟩
 | 12 => ⟨[1, 2, 4, 6, 7, 8, 51], [2, 4, 6, 8, 342], [], [], [2, 4, 6, 8, 342]⟩
 | 13 => ⟨[4, 6], [4, 6, 342], [], [], [4, 6, 342]⟩
 | 14 => ⟨[4, 5], [4], [], [], [4]⟩
 | 15 => ⟨[1, 2, 4, 6, 7, 8, 60], [2, 4, 6, 8, 342], [], [], [2, 4, 6, 8, 342]⟩
 | 16 => ⟨[4, 6], [4, 6, 342], [], [], [4, 6, 342]⟩
 | 17 => ⟨[4, 5], [4], [], [], [4]⟩
 | 18 => ⟨[1, 2, 4, 6, 26, 27, 28], [2, 4, 6, 342], [], [], [2, 4, 6, 342]⟩
 | 19 => ⟨[4, 6], [4, 6, 342], [], [], [4, 6, 342]⟩
 | 20 => ⟨[4, 5], [4], [], [], [4]⟩
 | _ => ⟨[], [], [], [], []⟩
noncomputable abbrev XJ : Cx := ⟨Tryd.prog, ⟨id, JK, JH⟩, JB⟩
theorem aap {args : List PV} {r : PV} (ha : args.length = 2) (h : awp XJ XM (zS Tryd.prog [.cell 4 149, .tmp 5] r []) (zQ args [])) : PC Tryd.prog 97 args r :=
 zK (X := XJ) mixed Tryd.func97 (c := XM) (by kernel_rfl) (by kernel_rfl) (rs := [.cell 4 149, .tmp 5]) (by kernel_rfl) (by kernel_rfl) (by rw [ha]; decide) h
noncomputable def aaE : Code := (Tryd.f74.body).getD .skip
def YA : List (Nat × Nf) := []
def YI : List (Nat × List Nat) := [(24, [6]), (25, [6]), (26, []), (27, [6]), (28, [6]), (30, [26, 29])]
def YM : Nat → Ann
 | 0 => ⟨[1, 2], [2], [], [], [2]⟩
 | 1 => ⟨[1, 2, 10], [2], [], [], [2]⟩
 | 2 => ⟨[4, 5], [], [.nrm 4 [some 1]], [], []⟩
 | 3 => ⟨[2, 6, 7], [2, 6], [], [], [2, 6]⟩
 | 4 => ⟨[2, 6, 23], [2, 6], [], [], [2, 6]⟩
 | 5 => ⟨[4, 5], [], [.nrm 4 [some 1]], [], []⟩
 | 6 => ⟨[2, 8], [2, 26], [], [.ren 26 8], [2, 8, 26]⟩
 | 7 => ⟨[7, 8], [8], [], [], [8]⟩
 | 8 => ⟨[4, 5], [8], [], [.ren 8 4], [4, 8]⟩
 | _ => ⟨[], [], [], [], []⟩
noncomputable abbrev abr : Cx := ⟨Tryd.prog, ⟨id, YA, YI⟩, YM⟩
theorem acL {args : List PV} {r : PV} (ha : args.length = 2) (h : awp abr aaE (zS Tryd.prog [.tmp 4, .tmp 5] r []) (zQ args [])) : PC Tryd.prog 74 args r :=
 zK (X := abr) mixed Tryd.func74 (c := aaE) (by kernel_rfl) (by kernel_rfl) (rs := [.tmp 4, .tmp 5]) (by kernel_rfl) (by kernel_rfl) (by rw [ha]; decide) h
noncomputable def Yw : Code := (Tryd.f77.body).getD .skip
def XH : List (Nat × Nf) := []
def XL : List (Nat × List Nat) := []
def XK : Nat → Ann
 | 0 => ⟨[1, 2], [2, 1000], [], [], [2, 1000]⟩
 | 1 => ⟨[3], [1000], [], [], [1000]⟩
 | _ => ⟨[], [], [], [], []⟩
noncomputable abbrev YS : Cx := ⟨Tryd.prog, ⟨id, XH, XL⟩, XK⟩
theorem abB {args : List PV} {es es' : List Ent} {r : PV} (ha : args.length = 2) (hl : es'.length = es.length) (he : (es'.all fun e => e.wL es.length) = true) (h : awp YS Yw (zS Tryd.prog [.tmp 3] r es') (zQ args es)) : BC Tryd.prog 77 args es r es' :=
 ZV (X := YS) mixed Tryd.func77 (c := Yw) (by kernel_rfl) (by kernel_rfl) (rs := [.tmp 3]) (by kernel_rfl) (by kernel_rfl) (by rw [ha]; decide) hl (fun e h => List.all_eq_true.1 he e h) h
noncomputable def xO : Code := (Tryd.f76.body).getD .skip
def xC : List (Nat × Nf) := []
def xz : List (Nat × List Nat) := []
def xD : Nat → Ann
 | 0 => ⟨[0, 1], [1000], [], [], [1000]⟩
 | 1 => ⟨[0, 1, 7, 8], [1000], [], [], [1000]⟩
 | 2 => ⟨[0, 1, 7, 8, 9], [1000], [], [], [1000]⟩
 | 3 => ⟨[0, 1, 5, 7, 8], [1000], [], [], [1000]⟩
 | 4 => ⟨[0, 1, 5, 7, 8, 16], [1000], [], [], [1000]⟩
 | 5 => ⟨[4], [1000], [], [], [1000]⟩
 | 6 => ⟨[0, 1, 7, 8], [1000], [], [], [1000]⟩
 | 7 => ⟨[4], [1000], [], [], [1000]⟩
 | _ => ⟨[], [], [], [], []⟩
noncomputable abbrev xJ : Cx := ⟨Tryd.prog, ⟨id, xC, xz⟩, xD⟩
theorem Ql {args : List PV} {es es' : List Ent} {r : PV} (ha : args.length = 2) (hl : es'.length = es.length) (he : (es'.all fun e => e.wL es.length) = true) (h : awp xJ xO (zS Tryd.prog [.tmp 4] r es') (zQ args es)) : BC Tryd.prog 76 args es r es' :=
 ZV (X := xJ) mixed Tryd.func76 (c := xO) (by kernel_rfl) (by kernel_rfl) (rs := [.tmp 4]) (by kernel_rfl) (by kernel_rfl) (by rw [ha]; decide) hl (fun e h => List.all_eq_true.1 he e h) h
noncomputable def acg : Code := (Tryd.f78.body).getD .skip
def aaC : List (Nat × Nf) := [(18, [none, none, some 1, some 2, some 5]), (48, [none, none, none, none, some 5])]
def abm : List (Nat × List Nat) := []
def aa8 : Nat → Ann
 | 0 => ⟨[1, 3, 5, 6], [3, 5, 6], [.nrm 6 [none, none, some 1, some 2, some 5]], [], [3, 5, 6]⟩
 | 1 => ⟨[1, 3, 5, 6, 9], [3, 5, 6], [], [], [3, 5, 6]⟩
 | 2 => ⟨[1, 3, 5, 6, 9, 17], [3, 5, 6], [], [], [3, 5, 6]⟩
 | 3 => ⟨[6, 7], [6], [], [], [6]⟩
 | 4 => ⟨[1, 3, 5, 6, 22], [3, 5, 6], [], [], [3, 5, 6]⟩
 | 5 => ⟨[6, 7], [6], [], [], [6]⟩
 | 6 => ⟨[1, 3, 5, 6], [3, 5, 6, 26], [], [.ren 26 325], [3, 5, 6, 26, 325]⟩
 | 7 => ⟨[3, 6], [3, 6, 325], [], [], [3, 6, 325]⟩
 | 8 => ⟨[6, 7], [6], [], [], [6]⟩
 | _ => ⟨[], [], [], [], []⟩
noncomputable abbrev adA : Cx := ⟨Tryd.prog, ⟨id, aaC, abm⟩, aa8⟩
theorem ad8 {args : List PV} {r : PV} (ha : args.length = 3) (h : awp adA acg (zS Tryd.prog [.cell 6 28, .tmp 7] r []) (zQ args [])) : PC Tryd.prog 78 args r :=
 zK (X := adA) mixed Tryd.func78 (c := acg) (by kernel_rfl) (by kernel_rfl) (rs := [.cell 6 28, .tmp 7]) (by kernel_rfl) (by kernel_rfl) (by rw [ha]; decide) h
noncomputable def ahM : Code := (Tryd.f46.body).getD .skip
def ae2 : List (Nat × Nf) := [(24, [none, none, some 1, some 2, some 5]), (37, [none, none, some 1, some 2, some 5]), (58, [none, none, none, some 2, none])]
def ae9 : List (Nat × List Nat) := []
def aeQ : Nat → Ann
 | 0 => ⟨[2, 3, 4], [2, 3, 4], [.nrm 4 [none, none, some 1, some 2, some 5]], [], [2, 3, 4]⟩
 | 1 => ⟨[2, 3, 4, 7, 8], [2, 3, 4], [], [], [2, 3, 4]⟩
 | 2 => ⟨[2, 3, 4, 7, 23], [2, 3, 4], [], [], [2, 3, 4]⟩
 | 3 => ⟨[4, 5, 6], [4], [], [], [4]⟩
 | 4 => ⟨[2, 3, 4, 7, 9], [2, 3, 4, 9], [], [], [2, 3, 4, 9]⟩
 | 5 => ⟨[2, 3, 4, 7, 9, 11], [2, 3, 4, 9], [], [], [2, 3, 4, 9]⟩
 | 6 => ⟨[2, 3, 4, 7, 9, 11, 36], [2, 3, 4, 9], [], [], [2, 3, 4, 9]⟩
 | 7 => ⟨[4, 5, 6], [4], [], [], [4]⟩
 | 8 => ⟨[2, 3, 4, 7, 9, 11, 12], [2, 3, 4, 9], [], [], [2, 3, 4, 9]⟩
 | 9 => ⟨[2, 3, 4, 7, 9, 11, 12], [2, 3, 4, 9, 46], [], [.ren 46 366], [2, 3, 4, 9, 46, 366]⟩
 | 10 => ⟨[2, 4, 7, 9, 12], [2, 4, 9, 366], [], [], [2, 4, 9, 366]⟩
 | 11 => ⟨[4, 12, 13, 14], [4, 13], [], [], [4, 13]⟩
 | 12 => ⟨[4, 5, 6], [4], [], [], [4]⟩
 | _ => ⟨[], [], [], [], []⟩
noncomputable abbrev af5 : Cx := ⟨Tryd.prog, ⟨id, ae2, ae9⟩, aeQ⟩
theorem agJ {args : List PV} {r : PV} (ha : args.length = 2) (h : awp af5 ahM (zS Tryd.prog [.cell 4 28, .tmp 5, .tmp 6] r []) (zQ args [])) : PC Tryd.prog 46 args r :=
 zK (X := af5) mixed Tryd.func46 (c := ahM) (by kernel_rfl) (by kernel_rfl) (rs := [.cell 4 28, .tmp 5, .tmp 6]) (by kernel_rfl) (by kernel_rfl) (by rw [ha]; decide) h
noncomputable def Q8 : Code := (Tryd.f113.body).getD .skip
def QG : List (Nat × Nf) := []
def Qz : List (Nat × List Nat) := []
def QN : Nat → Ann
 | 0 => ⟨[0, 1, 2, 6], [1000, 1001], [], [], [1000, 1001]⟩
 | 1 => ⟨[0, 1, 2, 6, 35], [1000, 1001], [], [], [1000, 1001]⟩
 | 2 => ⟨[], [1000, 1001], [], [], [1000, 1001]⟩
 | 3 => ⟨[], [1000, 1001], [], [], [1000, 1001]⟩
 | _ => ⟨[], [], [], [], []⟩
noncomputable abbrev QV : Cx := ⟨Tryd.prog, ⟨id, QG, Qz⟩, QN⟩
theorem VJ {args : List PV} {es es' : List Ent} {r : PV} (ha : args.length = 3) (hl : es'.length = es.length) (he : (es'.all fun e => e.wL es.length) = true) (h : awp QV Q8 (zS Tryd.prog [] r es') (zQ args es)) : BC Tryd.prog 113 args es r es' :=
 ZV (X := QV) mixed Tryd.func113 (c := Q8) (by kernel_rfl) (by kernel_rfl) (rs := []) (by kernel_rfl) (by kernel_rfl) (by rw [ha]; decide) hl (fun e h => List.all_eq_true.1 he e h) h
noncomputable def Z4 : Code := (Tryd.f114.body).getD .skip
def Zt : List (Nat × Nf) := []
def Zz : List (Nat × List Nat) := []
def Zp : Nat → Ann
 | 0 => ⟨[0, 1, 2, 3, 4, 8], [8, 1000, 1001], [.nrm 8 [none, none, some 1, some 2, some 5]], [], [8, 1000, 1001]⟩
 | 1 => ⟨[8], [8, 1000, 1001], [.nrm 8 [none, none, none, some 2, some 5]], [], [8, 1000, 1001]⟩
 | _ => ⟨[], [], [], [], []⟩
noncomputable abbrev Qb : Cx := ⟨Tryd.prog, ⟨id, Zt, Zz⟩, Zp⟩
theorem KS {args : List PV} {es es' : List Ent} {r : PV} (ha : args.length = 5) (hl : es'.length = es.length) (he : (es'.all fun e => e.wL es.length) = true) (h : awp Qb Z4 (zS Tryd.prog [.cell 8 28] r es') (zQ args es)) : BC Tryd.prog 114 args es r es' :=
 ZV (X := Qb) mixed Tryd.func114 (c := Z4) (by kernel_rfl) (by kernel_rfl) (rs := [.cell 8 28]) (by kernel_rfl) (by kernel_rfl) (by rw [ha]; decide) hl (fun e h => List.all_eq_true.1 he e h) h
noncomputable def QY : Code := (Tryd.f101.body).getD .skip
def Qy : List (Nat × Nf) := []
def Qr : List (Nat × List Nat) := [(69, [4]), (70, [4]), (71, [4, 7, 999999]), (76, [4, 7, 999999]), (79, [7]), (81, [4]), (82, [4]), (83, [4, 7, 999999])]
def Qq : Nat → Ann
 | 0 => ⟨[0, 2, 4], [4, 1000, 1001], [], [], [4, 1000, 1001]⟩
 | 1 => ⟨[0, 2, 4, 7], [4, 7, 1000, 1001], [], [], [4, 7, 1000, 1001]⟩
 | 2 => ⟨[0, 2, 4, 7, 8], [4, 7, 1000, 1001], [], [], [4, 7, 1000, 1001]⟩
 | 3 => ⟨[0, 2, 4, 7, 8, 9], [4, 7, 1000, 1001], [], [], [4, 7, 1000, 1001]⟩
 | 4 => ⟨[0, 2, 4, 7, 8, 9, 10, 11], [4, 7, 1000, 1001], [], [], [4, 7, 1000, 1001]⟩
 | 5 => ⟨[0, 2, 4, 7, 8, 9, 10, 55], [4, 7, 1000, 1001], [], [], [4, 7, 1000, 1001]⟩
 | 6 => ⟨[6], [57, 1000, 1001], [], [.ren 57 6], [6, 57, 1000, 1001]⟩
 | 7 => ⟨[4, 7, 8, 9, 10], [4, 7, 1000, 1001], [], [], [4, 7, 1000, 1001]⟩
 | 8 => ⟨[4, 7, 8, 9, 10, 12], [4, 7, 1000, 1001], [], [], [4, 7, 1000, 1001]⟩
 | 9 => ⟨[6], [84, 1000, 1001], [], [.ren 84 6], [6, 84, 1000, 1001]⟩
 | _ => ⟨[], [], [], [], []⟩
noncomputable abbrev Q0 : Cx := ⟨Tryd.prog, ⟨id, Qy, Qr⟩, Qq⟩
theorem VO {args : List PV} {es es' : List Ent} {r : PV} (ha : args.length = 3) (hl : es'.length = es.length) (he : (es'.all fun e => e.wL es.length) = true) (h : awp Q0 QY (zS Tryd.prog [.tmp 6] r es') (zQ args es)) : BC Tryd.prog 101 args es r es' :=
 ZV (X := Q0) mixed Tryd.func101 (c := QY) (by kernel_rfl) (by kernel_rfl) (rs := [.tmp 6]) (by kernel_rfl) (by kernel_rfl) (by rw [ha]; decide) hl (fun e h => List.all_eq_true.1 he e h) h
noncomputable def aeX : Code := (Tryd.f82.body).getD .skip
def ab7 : List (Nat × Nf) := []
def acb : List (Nat × List Nat) := []
def adn : Nat → Ann
 | 0 => ⟨[0], [], [], [], []⟩
 | 1 => ⟨[0, 3], [3], [.thaw 3 3 5], [], [3]⟩
 | 2 => ⟨[3, 7, 8, 9], [3], [], [], [3]⟩
 | 3 => ⟨[3, 7, 8, 9, 10], [3], [], [], [3]⟩
 | 4 => ⟨[3, 5, 7, 8, 9], [3, 5], [], [], [3, 5]⟩
 | 5 => ⟨[3, 5, 6, 7, 8, 9], [3, 5], [], [], [3, 5]⟩
 | 6 => ⟨[3, 7, 8, 9], [3], [], [], [3]⟩
 | 7 => ⟨[3, 5, 6, 7, 8, 9, 20], [3, 5], [], [], [3, 5]⟩
 | 8 => ⟨[3, 5, 6, 7, 8, 9, 28], [3, 5], [], [], [3, 5]⟩
 | 9 => ⟨[3, 5, 6, 7, 8, 9], [3, 5], [], [], [3, 5]⟩
 | 10 => ⟨[3, 7, 8, 9], [3], [], [], [3]⟩
 | 11 => ⟨[3, 7, 8, 9], [3], [], [], [3]⟩
 | 12 => ⟨[2], [3], [], [.ren 3 2], [2, 3]⟩
 | _ => ⟨[], [], [], [], []⟩
noncomputable abbrev afg : Cx := ⟨Tryd.prog, ⟨id, ab7, acb⟩, adn⟩
theorem afB {args : List PV} {r : PV} (ha : args.length = 1) (h : awp afg aeX (zS Tryd.prog [.tmp 2] r []) (zQ args [])) : PC Tryd.prog 82 args r :=
 zK (X := afg) mixed Tryd.func82 (c := aeX) (by kernel_rfl) (by kernel_rfl) (rs := [.tmp 2]) (by kernel_rfl) (by kernel_rfl) (by rw [ha]; decide) h
noncomputable def QX : Code := (Tryd.f79.body).getD .skip
def Qw : List (Nat × Nf) := []
def Qn : List (Nat × List Nat) := []
def QC : Nat → Ann
 | 0 => ⟨[0, 1, 2], [1000, 1001], [], [], [1000, 1001]⟩
 | 1 => ⟨[0, 1, 2, 7], [7, 1000, 1001], [.thaw 7 7 5], [], [7, 1000, 1001]⟩
 | 2 => ⟨[0, 2, 7, 11, 12, 13], [7, 1000, 1001], [], [], [7, 1000, 1001]⟩
 | 3 => ⟨[0, 2, 7, 11, 12, 13, 14], [7, 1000, 1001], [], [], [7, 1000, 1001]⟩
 | 4 => ⟨[0, 2, 7, 9, 11, 12, 13], [7, 9, 1000, 1001], [], [], [7, 9, 1000, 1001]⟩
 | 5 => ⟨[0, 2, 7, 9, 10, 11, 12, 13], [7, 9, 1000, 1001], [], [], [7, 9, 1000, 1001]⟩
 | 6 => ⟨[0, 2, 7, 9, 10, 11, 12, 13, 21], [7, 9, 1000, 1001], [], [], [7, 9, 1000, 1001]⟩
 | 7 => ⟨[0, 2, 7, 10, 11, 12, 13], [7, 1000, 1001], [], [], [7, 1000, 1001]⟩
 | 8 => ⟨[0, 2, 7, 9, 10, 11, 12, 13], [7, 9, 1000, 1001], [], [], [7, 9, 1000, 1001]⟩
 | 9 => ⟨[0, 2, 7, 10, 11, 12, 13], [7, 1000, 1001], [], [], [7, 1000, 1001]⟩
 | 10 => ⟨[0, 2, 7, 11, 12, 13], [7, 1000, 1001], [], [], [7, 1000, 1001]⟩
 | 11 => ⟨[0, 2, 7, 11, 12, 13], [7, 1000, 1001], [], [], [7, 1000, 1001]⟩
 | 12 => ⟨[6], [1000, 1001], [], [], [1000, 1001]⟩
 | _ => ⟨[], [], [], [], []⟩
noncomputable abbrev QZ : Cx := ⟨Tryd.prog, ⟨id, Qw, Qn⟩, QC⟩
theorem VM {args : List PV} {es es' : List Ent} {r : PV} (ha : args.length = 3) (hl : es'.length = es.length) (he : (es'.all fun e => e.wL es.length) = true) (h : awp QZ QX (zS Tryd.prog [.tmp 6] r es') (zQ args es)) : BC Tryd.prog 79 args es r es' :=
 ZV (X := QZ) mixed Tryd.func79 (c := QX) (by kernel_rfl) (by kernel_rfl) (rs := [.tmp 6]) (by kernel_rfl) (by kernel_rfl) (by rw [ha]; decide) hl (fun e h => List.all_eq_true.1 he e h) h
noncomputable def adm : Code := (Tryd.f47.body).getD .skip
def abf : List (Nat × Nf) := [(14, [none, none, some 1, some 2, some 5])]
def aaS : List (Nat × List Nat) := [(23, [2]), (25, [17]), (26, [17]), (27, [17]), (500004, [4])]
def abo : Nat → Ann
 | 0 => ⟨[2, 3, 4], [2, 3, 4], [.nrm 4 [none, none, some 1, some 2, some 5]], [], [2, 3, 4]⟩
 | 1 => ⟨[2, 3, 4, 13], [2, 3, 4], [], [], [2, 3, 4]⟩
 | 2 => ⟨[4, 5, 6], [4], [.nrm 5 [some 3]], [], [4]⟩
 | 3 => ⟨[2, 4, 7], [2, 4, 17, 425], [.KC 17 6 425 3], [], [2, 4, 17, 425]⟩
 | 4 => ⟨[2, 4, 7], [2, 4, 17, 425], [], [], [2, 4, 17, 425]⟩
 | 5 => ⟨[4, 5, 6], [4, 425], [], [.ren 425 5], [4, 5, 425]⟩
 | _ => ⟨[], [], [], [], []⟩
noncomputable abbrev adv : Cx := ⟨Tryd.prog, ⟨id, abf, aaS⟩, abo⟩
theorem aej {args : List PV} {r : PV} (ha : args.length = 2) (h : awp adv adm (zS Tryd.prog [.cell 4 28, .tmp 5, .tmp 6] r []) (zQ args [])) : PC Tryd.prog 47 args r :=
 zK (X := adv) mixed Tryd.func47 (c := adm) (by kernel_rfl) (by kernel_rfl) (rs := [.cell 4 28, .tmp 5, .tmp 6]) (by kernel_rfl) (by kernel_rfl) (by rw [ha]; decide) h
noncomputable def adC : Code := (Tryd.f48.body).getD .skip
def aa3 : List (Nat × Nf) := [(26, [none, none, some 1, some 2, none])]
def aaI : List (Nat × List Nat) := []
def aa2 : Nat → Ann
 | 0 => ⟨[1], [1], [], [], [1]⟩
 | 1 => ⟨[1, 3], [1], [], [], [1]⟩
 | 2 => ⟨[1, 3, 21], [1], [], [], [1]⟩
 | 3 => ⟨[1, 3, 21, 22], [1], [], [], [1]⟩
 | 4 => ⟨[1, 3, 4], [1], [], [], [1]⟩
 | 5 => ⟨[2], [], [], [], []⟩
 | 6 => ⟨[1, 3, 21, 41], [1], [], [], [1]⟩
 | 7 => ⟨[2], [], [], [], []⟩
 | 8 => ⟨[1, 3, 21, 72], [1], [], [], [1]⟩
 | 9 => ⟨[1, 3, 72], [1], [], [], [1]⟩
 | 10 => ⟨[2], [], [], [], []⟩
 | 11 => ⟨[2], [], [], [], []⟩
 | _ => ⟨[], [], [], [], []⟩
noncomputable abbrev acA : Cx := ⟨Tryd.prog, ⟨id, aa3, aaI⟩, aa2⟩
theorem aeg {args : List PV} {r : PV} (ha : args.length = 1) (h : awp acA adC (zS Tryd.prog [.tmp 2] r []) (zQ args [])) : PC Tryd.prog 48 args r :=
 zK (X := acA) mixed Tryd.func48 (c := adC) (by kernel_rfl) (by kernel_rfl) (rs := [.tmp 2]) (by kernel_rfl) (by kernel_rfl) (by rw [ha]; decide) h
noncomputable def VU : Code := (Tryd.f96.body).getD .skip
def VD : List (Nat × Nf) := [(4, [some 1, none, none, some 1, some 2, some 5, none, none])]
def Vu : List (Nat × List Nat) := []
def Vg : Nat → Ann
 | 0 => ⟨[1, 3], [1000, 1001], [], [], [1000, 1001]⟩
 | 1 => ⟨[], [1000, 1001], [], [], [1000, 1001]⟩
 | _ => ⟨[], [], [], [], []⟩
noncomputable abbrev Ja : Cx := ⟨Tryd.prog, ⟨id, VD, Vu⟩, Vg⟩
theorem XR {args : List PV} {es es' : List Ent} {r : PV} (ha : args.length = 2) (hl : es'.length = es.length) (he : (es'.all fun e => e.wL es.length) = true) (h : awp Ja VU (zS Tryd.prog [] r es') (zQ args es)) : BD Tryd.prog 96 args es r es' :=
 apU (X := Ja) mixed Tryd.func96 (c := VU) (by kernel_rfl) (rs := []) (by kernel_rfl) (by kernel_rfl) (by rw [ha]; decide) hl (fun e h => List.all_eq_true.1 he e h) h
noncomputable def Va : Code := (Tryd.f98.body).getD .skip
def Kr : List (Nat × Nf) := []
def Km : List (Nat × List Nat) := []
def KG : Nat → Ann
 | 0 => ⟨[0, 1], [], [], [], []⟩
 | 1 => ⟨[0, 1, 10], [], [], [], []⟩
 | 2 => ⟨[4], [], [], [], []⟩
 | 3 => ⟨[0, 1, 12, 13], [], [], [], []⟩
 | 4 => ⟨[0, 1, 12, 13, 14], [], [], [], []⟩
 | 5 => ⟨[0, 1, 5, 12, 13], [], [], [], []⟩
 | 6 => ⟨[0, 1, 12, 13, 24], [], [], [], []⟩
 | 7 => ⟨[4], [], [], [], []⟩
 | 8 => ⟨[0, 1, 12, 13], [], [], [], []⟩
 | 9 => ⟨[4], [], [], [], []⟩
 | _ => ⟨[], [], [], [], []⟩
noncomputable abbrev VB : Cx := ⟨Tryd.prog, ⟨id, Kr, Km⟩, KG⟩
theorem J4 {args : List PV} {r : PV} (ha : args.length = 2) (h : awp VB Va (zS Tryd.prog [.tmp 4] r []) (zQ args [])) : PC Tryd.prog 98 args r :=
 zK (X := VB) mixed Tryd.func98 (c := Va) (by kernel_rfl) (by kernel_rfl) (rs := [.tmp 4]) (by kernel_rfl) (by kernel_rfl) (by rw [ha]; decide) h
noncomputable def aaw : Code := (Tryd.f99.body).getD .skip
def Yx : List (Nat × Nf) := []
def YO : List (Nat × List Nat) := []
def YN : Nat → Ann
 | 0 => ⟨[1, 2], [2], [], [], [2]⟩
 | 1 => ⟨[1, 2, 7], [2], [], [], [2]⟩
 | 2 => ⟨[1, 2, 7, 18], [2], [], [], [2]⟩
 | 3 => ⟨[4, 5], [], [], [], []⟩
 | 4 => ⟨[1, 2, 8], [2], [], [], [2]⟩
 | 5 => ⟨[2, 8, 20, 21, 22], [2], [], [], [2]⟩
 | 6 => ⟨[2, 8, 20, 21, 22, 23], [2], [], [], [2]⟩
 | 7 => ⟨[2, 8, 10, 20, 21, 22], [2], [], [], [2]⟩
 | 8 => ⟨[2, 8, 10, 20, 21, 22], [2], [], [], [2]⟩
 | 9 => ⟨[2, 8, 20, 21, 22], [2], [], [], [2]⟩
 | 10 => ⟨[2, 8, 20, 21, 22], [2], [], [], [2]⟩
 | 11 => ⟨[4, 5], [], [], [], []⟩
 | _ => ⟨[], [], [], [], []⟩
noncomputable abbrev aaL : Cx := ⟨Tryd.prog, ⟨id, Yx, YO⟩, YN⟩
theorem acG {args : List PV} {r : PV} (ha : args.length = 2) (h : awp aaL aaw (zS Tryd.prog [.tmp 4, .tmp 5] r []) (zQ args [])) : PC Tryd.prog 99 args r :=
 zK (X := aaL) mixed Tryd.func99 (c := aaw) (by kernel_rfl) (by kernel_rfl) (rs := [.tmp 4, .tmp 5]) (by kernel_rfl) (by kernel_rfl) (by rw [ha]; decide) h
def Yr : List (Nat × Nf) := []
def X8 : List (Nat × List Nat) := [(31, [1001]), (32, [1000]), (42, [1001]), (43, [1000]), (71, [8]), (72, [8]), (73, [12]), (81, [1000]), (500006, [1001]), (500007, [1000])]
def YY : Nat → Ann
 | 0 => ⟨[1, 2, 3, 6, 7], [3, 6, 7], [.nrm 6 [some 1, none, none, some 1, some 2, some 5, none, none]], [], [3, 6, 7]⟩
 | 1 => ⟨[1, 2, 3, 6, 7], [], [], [], []⟩
 | 2 => ⟨[1, 2, 3, 6, 7, 21], [3, 1000, 1001], [], [], [3, 1000, 1001]⟩
 | 3 => ⟨[6, 7], [1000, 1001], [], [], [1000, 1001]⟩
 | 4 => ⟨[1, 2, 3, 6, 7, 8], [3, 8, 1000, 1001], [], [], [3, 8, 1000, 1001]⟩
 | 5 => ⟨[1, 2, 3, 6, 7, 8, 30], [3, 8, 1000, 1001], [], [], [3, 8, 1000, 1001]⟩
 | 6 => ⟨[6, 7], [1000, 1001], [], [], [1000, 1001]⟩
 | 7 => ⟨[1, 2, 3, 6, 7, 8, 9], [3, 8, 9, 1000, 1001], [], [], [3, 8, 9, 1000, 1001]⟩
 | 8 => ⟨[1, 2, 3, 6, 7, 8, 9, 39], [3, 8, 9, 1000, 1001], [], [], [3, 8, 9, 1000, 1001]⟩
 | 9 => ⟨[6, 7], [1000, 1001], [], [], [1000, 1001]⟩
 | 10 => ⟨[1, 2, 3, 6, 7, 8, 9, 44], [3, 8, 9, 1000, 1001], [], [], [3, 8, 9, 1000, 1001]⟩
 | 11 => ⟨[6, 7], [1000, 1001], [], [], [1000, 1001]⟩
 | 12 => ⟨[1, 2, 3, 6, 7, 8, 49], [3, 8, 1000, 1001], [], [], [3, 8, 1000, 1001]⟩
 | 13 => ⟨[6, 7], [1000, 1001], [], [], [1000, 1001]⟩
 | 14 => ⟨[1, 2, 3, 6, 7, 8, 10], [3, 8, 1000, 1001], [], [], [3, 8, 1000, 1001]⟩
 | 15 => ⟨[1, 2, 6, 7, 8, 10, 12], [8, 12, 1000, 1001], [], [], [8, 12, 1000, 1001]⟩
 | 16 => ⟨[6, 7], [1000, 1001], [], [], [1000, 1001]⟩
 | _ => ⟨[], [], [], [], []⟩
noncomputable abbrev Jm : Cx := ⟨Tryd.prog, ⟨id, Yr, X8⟩, YY⟩
noncomputable def X5 : Code := match Tryd.f72.body with | some (.seq c _) => c | _ => .skip
noncomputable def X9 : Code := match Tryd.f72.body with | some (.seq _ (.seq _ c)) => c | _ => .skip
noncomputable def ag2 : Oper := match Tryd.f72.body with | some (.seq _ (.seq (.region _ ops _) _)) => (ops[0]?).getD ⟨none, .move (.tmp 0), 0, "", #[], none⟩ | _ => ⟨none, .move (.tmp 0), 0, "", #[], none⟩
noncomputable def agA : Oper := match Tryd.f72.body with | some (.seq _ (.seq (.region _ ops _) _)) => (ops[1]?).getD ⟨none, .move (.tmp 0), 0, "", #[], none⟩ | _ => ⟨none, .move (.tmp 0), 0, "", #[], none⟩
theorem acf {args : List PV} {r : PV} (ha : args.length = 3) (h : awp Jm X5 (midD Jm 96 13 7 6 X9 [.cell 6 123, .cell 7 31] r) (zQ args [])) : PC Tryd.prog 72 args r :=
 aoc (X := Jm) (id := 1) (o1 := ag2) (o2 := agA) (c0 := X5) (c1 := X9) mixed Tryd.func72 (by kernel_rfl) ⟨by rfl, by rfl, by rfl⟩ ⟨⟨_, by rfl⟩, by rfl, by rfl⟩ (by kernel_rfl) ⟨_, Tryd.func96, by kernel_rfl, by kernel_rfl⟩ (rs := [.cell 6 123, .cell 7 31]) (by kernel_rfl) (by kernel_rfl) (by kernel_rfl) (by rw [ha]; decide) (by decide) h
noncomputable def aaB : Code := (Tryd.f73.body).getD .skip
def YR : List (Nat × Nf) := []
def X4 : List (Nat × List Nat) := [(44, []), (45, []), (48, []), (49, []), (75, []), (76, []), (79, []), (80, []), (81, [11]), (82, [9]), (83, [9]), (500081, [11]), (500083, [9])]
def YJ : Nat → Ann
 | 0 => ⟨[0, 1], [], [], [], []⟩
 | 1 => ⟨[0, 1, 19], [], [], [], []⟩
 | 2 => ⟨[4, 5, 6], [], [.nrm 4 [some 5], .nrm 5 [some 5]], [], []⟩
 | 3 => ⟨[0, 1, 7], [], [], [], []⟩
 | 4 => ⟨[0, 1, 7, 32], [], [], [], []⟩
 | 5 => ⟨[0, 1, 7], [], [], [], []⟩
 | 6 => ⟨[0, 1, 7], [], [], [], []⟩
 | 7 => ⟨[0, 1, 7, 8, 9], [45, 49], [], [.ren 45 8, .ren 49 9], [8, 9, 45, 49]⟩
 | 8 => ⟨[0, 1, 7, 8, 9, 50], [8, 9], [], [], [8, 9]⟩
 | 9 => ⟨[4, 5, 6], [8, 9], [], [.ren 8 4, .ren 9 5], [4, 5, 8, 9]⟩
 | 10 => ⟨[0, 1, 7, 8, 9, 55], [8, 9], [], [], [8, 9]⟩
 | 11 => ⟨[4, 5, 6], [], [.nrm 4 [some 5], .nrm 5 [some 5]], [], []⟩
 | 12 => ⟨[0, 1, 7, 8, 9, 10], [8, 9], [], [], [8, 9]⟩
 | 13 => ⟨[1, 8, 9, 10, 11], [8, 9, 11], [], [], [8, 9, 11]⟩
 | 14 => ⟨[8, 9, 11], [8, 9, 11], [], [], [8, 9, 11]⟩
 | 15 => ⟨[4, 5, 6], [8, 9], [], [.ren 8 4, .ren 9 5], [4, 5, 8, 9]⟩
 | _ => ⟨[], [], [], [], []⟩
noncomputable abbrev abe : Cx := ⟨Tryd.prog, ⟨id, YR, X4⟩, YJ⟩
theorem ab0 {args : List PV} {r : PV} (ha : args.length = 2) (h : awp abe aaB (zS Tryd.prog [.tmp 4, .tmp 5, .tmp 6] r []) (zQ args [])) : PC Tryd.prog 73 args r :=
 zK (X := abe) mixed Tryd.func73 (c := aaB) (by kernel_rfl) (by kernel_rfl) (rs := [.tmp 4, .tmp 5, .tmp 6]) (by kernel_rfl) (by kernel_rfl) (by rw [ha]; decide) h
noncomputable def ZK : Code := (Tryd.f83.body).getD .skip
def Za : List (Nat × Nf) := []
def y5 : List (Nat × List Nat) := []
def y8 : Nat → Ann
 | 0 => ⟨[0], [], [], [], []⟩
 | 1 => ⟨[0, 3], [], [], [], []⟩
 | 2 => ⟨[0, 3, 9, 10, 11], [], [], [], []⟩
 | 3 => ⟨[0, 3, 9, 10, 11, 12], [], [], [], []⟩
 | 4 => ⟨[0, 3, 5, 9, 10, 11], [], [], [], []⟩
 | 5 => ⟨[0, 3, 9, 10, 11], [], [], [], []⟩
 | 6 => ⟨[0, 3, 9, 10, 11, 20], [], [], [], []⟩
 | 7 => ⟨[0, 3, 9, 10, 11], [], [], [], []⟩
 | 8 => ⟨[0, 3, 9, 10, 11], [], [], [], []⟩
 | 9 => ⟨[0, 6], [24], [], [.ren 24 6], [6, 24]⟩
 | 10 => ⟨[6, 25, 26, 27], [6], [], [], [6]⟩
 | 11 => ⟨[6, 25, 26, 27, 28], [6], [], [], [6]⟩
 | 12 => ⟨[6, 8, 25, 26, 27], [6], [], [], [6]⟩
 | 13 => ⟨[6, 25, 26, 27], [6], [], [], [6]⟩
 | 14 => ⟨[6, 25, 26, 27], [6], [], [], [6]⟩
 | 15 => ⟨[2], [6], [], [.ren 6 2], [2, 6]⟩
 | _ => ⟨[], [], [], [], []⟩
noncomputable abbrev Zx : Cx := ⟨Tryd.prog, ⟨id, Za, y5⟩, y8⟩
theorem Kl {args : List PV} {r : PV} (ha : args.length = 1) (h : awp Zx ZK (zS Tryd.prog [.tmp 2] r []) (zQ args [])) : PC Tryd.prog 83 args r :=
 zK (X := Zx) mixed Tryd.func83 (c := ZK) (by kernel_rfl) (by kernel_rfl) (rs := [.tmp 2]) (by kernel_rfl) (by kernel_rfl) (by rw [ha]; decide) h
noncomputable def afj : Code := (Tryd.f49.body).getD .skip
def ac2 : List (Nat × Nf) := [(33, [none, none, some 1, some 2, none]), (37, [none, none, some 1, some 2, some 5]), (40, [none, none, some 1, some 2, some 5]), (83, [none, none, some 1, some 2, some 5])]
def ado : List (Nat × List Nat) := []
def aco : Nat → Ann
 | 0 => ⟨[1, 2, 3, 4, 8], [4, 8], [.nrm 8 [none, none, some 1, some 2, some 5]], [], [4, 8]⟩
 | 1 => ⟨[3, 4, 8, 10, 11], [4, 8, 10], [], [], [4, 8, 10]⟩
 | 2 => ⟨[3, 4, 8, 10, 11, 36], [4, 8, 10], [], [], [4, 8, 10]⟩
 | 3 => ⟨[8, 9], [8], [], [], [8]⟩
 | 4 => ⟨[3, 4, 8, 10, 11, 39], [4, 8, 10], [], [], [4, 8, 10]⟩
 | 5 => ⟨[8, 9], [8], [], [], [8]⟩
 | 6 => ⟨[3, 4, 8, 10, 12], [4, 8, 10], [], [], [4, 8, 10]⟩
 | 7 => ⟨[3, 4, 8, 10, 12, 16], [4, 8, 10], [], [], [4, 8, 10]⟩
 | 8 => ⟨[4, 8, 10], [4, 8, 10], [], [], [4, 8, 10]⟩
 | 9 => ⟨[8, 18], [8, 18], [], [], [8, 18]⟩
 | 10 => ⟨[8, 18, 20], [8, 18], [], [], [8, 18]⟩
 | 11 => ⟨[8, 18, 20, 82], [8, 18], [], [], [8, 18]⟩
 | 12 => ⟨[8, 9], [8], [], [], [8]⟩
 | 13 => ⟨[8, 9], [8], [], [], [8]⟩
 | _ => ⟨[], [], [], [], []⟩
noncomputable abbrev ae1 : Cx := ⟨Tryd.prog, ⟨id, ac2, ado⟩, aco⟩
theorem afC {args : List PV} {r : PV} (ha : args.length = 4) (h : awp ae1 afj (zS Tryd.prog [.cell 8 28, .tmp 9] r []) (zQ args [])) : PC Tryd.prog 49 args r :=
 zK (X := ae1) mixed Tryd.func49 (c := afj) (by kernel_rfl) (by kernel_rfl) (rs := [.cell 8 28, .tmp 9]) (by kernel_rfl) (by kernel_rfl) (by rw [ha]; decide) h
noncomputable def ac5 : Code := (Tryd.f17.body).getD .skip
def aa1 : List (Nat × Nf) := [(16, [none, none, some 1, some 2, some 5]), (26, [none, none, some 1, some 2, some 5])]
def aba : List (Nat × List Nat) := []
def aaz : Nat → Ann
 | 0 => ⟨[2, 3, 4], [2, 3, 4], [.nrm 4 [none, none, some 1, some 2, some 5]], [], [2, 3, 4]⟩
 | 1 => ⟨[2, 3, 4, 12], [2, 3, 4], [], [], [2, 3, 4]⟩
 | 2 => ⟨[4, 5], [4], [], [], [4]⟩
 | 3 => ⟨[2, 3, 4, 17], [2, 3, 4], [], [], [2, 3, 4]⟩
 | 4 => ⟨[4, 5], [4], [], [], [4]⟩
 | 5 => ⟨[2, 3, 4, 27], [2, 3, 4], [], [], [2, 3, 4]⟩
 | 6 => ⟨[4, 5], [4], [], [], [4]⟩
 | 7 => ⟨[2, 3, 4, 41], [2, 3, 4], [], [], [2, 3, 4]⟩
 | 8 => ⟨[4, 6, 8], [4, 6], [], [], [4, 6]⟩
 | 9 => ⟨[4, 5], [4], [], [], [4]⟩
 | 10 => ⟨[4, 9, 11], [4, 9], [], [], [4, 9]⟩
 | 11 => ⟨[4, 5], [4], [], [], [4]⟩
 | _ => ⟨[], [], [], [], []⟩
noncomputable abbrev acP : Cx := ⟨Tryd.prog, ⟨id, aa1, aba⟩, aaz⟩
theorem adX {args : List PV} {r : PV} (ha : args.length = 2) (h : awp acP ac5 (zS Tryd.prog [.cell 4 28, .tmp 5] r []) (zQ args [])) : PC Tryd.prog 17 args r :=
 zK (X := acP) mixed Tryd.func17 (c := ac5) (by kernel_rfl) (by kernel_rfl) (rs := [.cell 4 28, .tmp 5]) (by kernel_rfl) (by kernel_rfl) (by rw [ha]; decide) h
noncomputable def ZA : Code := (Tryd.f6.body).getD .skip
def y9 : List (Nat × Nf) := [(39, [none, none, none, some 5, none, none]), (65, [none, none, some 1, some 2, some 5]), (67, [none, none, none, some 5, none, none])]
def Zb : List (Nat × List Nat) := []
def y7 : Nat → Ann
 | 0 => ⟨[0, 1, 2], [], [], [], []⟩
 | 1 => ⟨[0, 1, 2, 7], [], [], [], []⟩
 | 2 => ⟨[0, 1, 2, 7, 25], [], [], [], []⟩
 | 3 => ⟨[6], [], [], [], []⟩
 | 4 => ⟨[1, 2, 8], [8], [], [], [8]⟩
 | 5 => ⟨[2, 8, 9], [8], [], [], [8]⟩
 | 6 => ⟨[2, 8, 9, 10, 11], [8, 10], [], [], [8, 10]⟩
 | 7 => ⟨[2, 8, 9, 10, 44], [8, 10], [], [], [8, 10]⟩
 | 8 => ⟨[6], [], [], [], []⟩
 | 9 => ⟨[2, 8, 9, 12, 13], [8], [], [], [8]⟩
 | 10 => ⟨[2, 8, 9, 12, 57], [8], [], [], [8]⟩
 | 11 => ⟨[6], [], [], [], []⟩
 | 12 => ⟨[2, 8, 9, 12, 14, 15], [8, 14], [], [], [8, 14]⟩
 | 13 => ⟨[2, 9, 12, 15, 16, 17], [], [], [], []⟩
 | 14 => ⟨[2, 9, 12, 120], [], [], [], []⟩
 | 15 => ⟨[6], [], [], [], []⟩
 | 16 => ⟨[6], [], [], [], []⟩
 | _ => ⟨[], [], [], [], []⟩
noncomputable abbrev Zv : Cx := ⟨Tryd.prog, ⟨id, y9, Zb⟩, y7⟩
theorem Ki {args : List PV} {r : PV} (ha : args.length = 3) (h : awp Zv ZA (zS Tryd.prog [.tmp 6] r []) (zQ args [])) : PC Tryd.prog 6 args r :=
 zK (X := Zv) mixed Tryd.func6 (c := ZA) (by kernel_rfl) (by kernel_rfl) (rs := [.tmp 6]) (by kernel_rfl) (by kernel_rfl) (by rw [ha]; decide) h
def YL : List (Nat × Nf) := []
def YQ : List (Nat × List Nat) := [(39, [1000]), (40, [1000]), (41, [1000]), (43, [1000]), (44, [1000]), (45, [1000]), (47, [3]), (48, [3]), (50, [1000]), (51, [1000]), (52, [1000]), (53, [1000]), (55, []), (56, []), (57, []), (60, [59, 1001]), (61, [1000]), (62, [1000])]
def Y1 : Nat → Ann
 | 0 => ⟨[0, 8, 9, 10], [1000, 1001], [], [], [1000, 1001]⟩
 | 1 => ⟨[0, 8, 9, 10, 11], [1000, 1001], [], [], [1000, 1001]⟩
 | 2 => ⟨[0, 2, 3, 8, 9, 10], [3, 1000, 1001], [], [], [3, 1000, 1001]⟩
 | 3 => ⟨[0, 2, 3, 8, 9, 10, 36], [3, 1000, 1001], [], [], [3, 1000, 1001]⟩
 | 4 => ⟨[0, 8, 9, 10], [1000, 1001], [], [], [1000, 1001]⟩
 | 5 => ⟨[0, 8, 9, 10], [1000, 1001], [], [], [1000, 1001]⟩
 | _ => ⟨[], [], [], [], []⟩
attribute [go_sem] YH YK Yq jN jM jL acv acp acQ aby abg aa4 QK QB QE abn aaD aau adq acV acO acd adg acr aaX abx aaR X7 YC X6 aaN abt abw abl aaG aaH aay abq aaU XP XI XN kX kZ ve aaO aa5 aaM Zn ZI Zw vQ vR vM acH acY ab6 QS Q6 Q9 agr ahr ahK QP QM QI Zo ZJ Zu ZG Zl ZC ac4 ads adI aa0 aaA aaF Q3 Q7 QT Ka WI W9 Zj ZF Zq Kw Kz KE WK WZ WO Kg WW WU KF Ko KI KA KD KH Yk X3 Yi JB JK JH YM YA YI XK XH XL xD xC xz aa8 aaC abm aeQ ae2 ae9 QN QG Qz Zp Zt Zz Qq Qy Qr adn ab7 acb QC Qw Qn abo abf aaS aa2 aa3 aaI Vg VD Vu KG Kr Km YN Yx YO YY Yr X8 YJ YR X4 y8 Za y5 aco ac2 ado aaz aa1 aba y7 y9 Zb Y1 YL YQ ty3 ty4 ty5 ty9 aw0 aw1 aw7 awZ awR avM awS awX awT axa awO aw4 aw5 axb aw2 awQ avO awe awn avH zu.xE ze.xE za.xE zx.xE vT.xE qO.xE wo.xE zD.xE jW.xE pvL
theorem pvE : (∀ x : zu, x.pv = .agg [.int .i64 x.Text, .int .i64 x.Marks, .int .i64 x.zh, .int .i64 x.In]) ∧ (∀ x : ze, x.pv = .agg [.str x.Name, .str x.Value]) ∧ (∀ x : za, x.pv = .agg [.str x.Kind, .str x.Text, .list 1 (x.Marks.map PV.str), .list 2 (x.zh.map ze.pv), .list 5 (x.Kids.map za.pv)]) ∧ (∀ x : zx, x.pv = .agg [.int .u8 x.Kind, .int .i64 x.From, .int .i64 x.To, .list 5 (x.kG.map za.pv), .str x.Name, .str x.Value]) ∧ (∀ x : vT, x.pv = .agg [.str x.a.Kind, .str x.a.Text, .list 1 (x.a.Marks.map PV.str), .list 2 (x.a.zh.map ze.pv), .list 5 (x.a.Kids.map za.pv), .str x.b.Kind, .str x.b.Text, .list 1 (x.b.Marks.map PV.str), .list 2 (x.b.zh.map ze.pv), .list 5 (x.b.Kids.map za.pv), .list 1 (x.path.map (PV.int .i64)), .int .i64 x.at_, .int .i64 x.head, .int .i64 x.m, .int .i64 x.n, .list 6 (x.attrs.map zx.pv)]) ∧ (∀ x : qO, x.pv = .agg [.list 1 (x.path.map (PV.int .i64)), .str x.in_.Kind, .str x.in_.Text, .list 1 (x.in_.Marks.map PV.str), .list 2 (x.in_.zh.map ze.pv), .list 5 (x.in_.Kids.map za.pv), .int .i64 x.from_, .int .i64 x.to_]) ∧ (∀ x : wo, x.pv = .agg [.list 1 (x.Path.map (PV.int .i64)), .int .i64 x.Index, .int .i64 x.Offset]) ∧ (∀ x : zD, x.pv = .agg [.int .i64 x.Pos, .int .i64 x.Old, .int .i64 x.New]) ∧ (∀ x : jW, x.pv = .agg [.int .u8 x.s.Kind, .int .i64 x.s.From, .int .i64 x.s.To, .list 5 (x.s.kG.map za.pv), .str x.s.Name, .str x.s.Value, .list 3 (x.changed.map zD.pv)]) ∧ (∀ (α : Type) (sz : Nat) (f : α → PV) (l : List α), pvL sz f l = .list sz (l.map f)) :=
 ⟨zu.xE, ze.xE, za.xE, zx.xE, vT.xE, qO.xE, wo.xE, zD.xE, jW.xE, fun _ _ _ _ => rfl⟩
theorem lsE {α β : Type} (f : α → β) : (∀ a l, List.map f (a :: l) = f a :: List.map f l) ∧ List.map f [] = [] ∧ (∀ a b, List.map f (a ++ b) = List.map f a ++ List.map f b) :=
 ⟨fun _ _ => rfl, rfl, fun a b => List.map_append⟩
end Go.Proofs.YtclohbgnaopjfaaDoor
