/- Texts of the proof of stepAttrsCard -/
import Derived.Test.YtclohbgnaopjfaaDoorAgT
import Derived.Test.YtclohbgnaopjfaaDoorAwT
namespace Go.Proofs.YtclohbgnaopjfaaDoor
set_option linter.unusedSimpArgs false
set_option linter.unusedVariables false
open Go
set_option maxRecDepth 100000
noncomputable def YS : Code := (Tryd.f58.body).getD .skip
def Xp : List (Nat × Nf) := []
def XN : List (Nat × List Nat) := []
def XU : Nat → Ann
  | 0 => ⟨[1], [1], [], [], [1]⟩
  | 1 => ⟨[2], [], [], [], []⟩
  | _ => ⟨[], [], [], [], []⟩
noncomputable abbrev aai : Cx := ⟨Tryd.prog, ⟨id, Xp, XN⟩, XU⟩
theorem acN {args : List PV} {r : PV} (ha : args.length = 1) (h : awp aai YS (zR Tryd.prog [.tmp 2] r []) (zP args [])) : PC Tryd.prog 58 args r :=
  zI (X := aai) mixed Tryd.func58 (c := YS) (by kernel_rfl) (by kernel_rfl) (rs := [.tmp 2]) (by kernel_rfl) (by kernel_rfl) (by rw [ha]; decide) h
noncomputable def jP : Code := (Tryd.f63.body).getD .skip
def jy : List (Nat × Nf) := []
def jv : List (Nat × List Nat) := []
def jB : Nat → Ann
  | 0 => ⟨[0, 2], [], [], [], []⟩
  | 1 => ⟨[2, 4], [4], [], [], [4]⟩
  | 2 => ⟨[2, 4, 6], [4], [], [], [4]⟩
  | 3 => ⟨[2, 4], [4], [], [], [4]⟩
  | 4 => ⟨[2], [], [], [], []⟩
  | _ => ⟨[], [], [], [], []⟩
noncomputable abbrev jM : Cx := ⟨Tryd.prog, ⟨id, jy, jv⟩, jB⟩
theorem yQ {args : List PV} {r : PV} (ha : args.length = 1) (h : awp jM jP (zR Tryd.prog [.tmp 2] r []) (zP args [])) : PC Tryd.prog 63 args r :=
  zI (X := jM) mixed Tryd.func63 (c := jP) (by kernel_rfl) (by kernel_rfl) (rs := [.tmp 2]) (by kernel_rfl) (by kernel_rfl) (by rw [ha]; decide) h
noncomputable def ab9 : Code := (Tryd.f27.body).getD .skip
def aao : List (Nat × Nf) := []
def Y2 : List (Nat × List Nat) := []
def aaG : Nat → Ann
  | 0 => ⟨[0], [], [], [], []⟩
  | 1 => ⟨[0, 3], [], [], [], []⟩
  | 2 => ⟨[3, 6, 7, 8], [], [], [], []⟩
  | 3 => ⟨[3, 6, 7, 8, 9], [], [], [], []⟩
  | 4 => ⟨[3, 5, 6, 7, 8], [5], [], [], [5]⟩
  | 5 => ⟨[3, 6, 7, 8], [], [], [], []⟩
  | 6 => ⟨[3, 6, 7, 8], [], [], [], []⟩
  | 7 => ⟨[2], [], [], [], []⟩
  | _ => ⟨[], [], [], [], []⟩
noncomputable abbrev acv : Cx := ⟨Tryd.prog, ⟨id, aao, Y2⟩, aaG⟩
theorem adC {args : List PV} {r : PV} (ha : args.length = 1) (h : awp acv ab9 (zR Tryd.prog [.tmp 2] r []) (zP args [])) : PC Tryd.prog 27 args r :=
  zI (X := acv) mixed Tryd.func27 (c := ab9) (by kernel_rfl) (by kernel_rfl) (rs := [.tmp 2]) (by kernel_rfl) (by kernel_rfl) (by rw [ha]; decide) h
noncomputable def aeg : Code := (Tryd.f34.body).getD .skip
def abB : List (Nat × Nf) := []
def abp : List (Nat × List Nat) := []
def aci : Nat → Ann
  | 0 => ⟨[1], [1], [], [], [1]⟩
  | 1 => ⟨[1, 4], [1], [], [], [1]⟩
  | 2 => ⟨[2], [], [], [], []⟩
  | 3 => ⟨[2], [], [], [], []⟩
  | _ => ⟨[], [], [], [], []⟩
noncomputable abbrev aeo : Cx := ⟨Tryd.prog, ⟨id, abB, abp⟩, aci⟩
theorem aeK {args : List PV} {r : PV} (ha : args.length = 1) (h : awp aeo aeg (zR Tryd.prog [.tmp 2] r []) (zP args [])) : PC Tryd.prog 34 args r :=
  zI (X := aeo) mixed Tryd.func34 (c := aeg) (by kernel_rfl) (by kernel_rfl) (rs := [.tmp 2]) (by kernel_rfl) (by kernel_rfl) (by rw [ha]; decide) h
noncomputable def QG : Code := (Tryd.f42.body).getD .skip
def Qu : List (Nat × Nf) := []
def Z4 : List (Nat × List Nat) := []
def Qp : Nat → Ann
  | 0 => ⟨[0, 1], [], [], [], []⟩
  | 1 => ⟨[0, 1, 10], [], [], [], []⟩
  | 2 => ⟨[4], [], [], [], []⟩
  | 3 => ⟨[0, 1, 12, 13], [], [], [], []⟩
  | 4 => ⟨[0, 1, 12, 13, 14], [], [], [], []⟩
  | 5 => ⟨[0, 1, 5, 12, 13], [], [], [], []⟩
  | 6 => ⟨[0, 1, 12, 13, 24], [], [], [], []⟩
  | 7 => ⟨[4], [], [], [], []⟩
  | 8 => ⟨[0, 1, 12, 13], [], [], [], []⟩
  | 9 => ⟨[4], [], [], [], []⟩
  | _ => ⟨[], [], [], [], []⟩
noncomputable abbrev QJ : Cx := ⟨Tryd.prog, ⟨id, Qu, Z4⟩, Qp⟩
theorem Vl {args : List PV} {r : PV} (ha : args.length = 2) (h : awp QJ QG (zR Tryd.prog [.tmp 4] r []) (zP args [])) : PC Tryd.prog 42 args r :=
  zI (X := QJ) mixed Tryd.func42 (c := QG) (by kernel_rfl) (by kernel_rfl) (rs := [.tmp 4]) (by kernel_rfl) (by kernel_rfl) (by rw [ha]; decide) h
noncomputable def acb : Code := (Tryd.f104.body).getD .skip
def YX : List (Nat × Nf) := []
def aaJ : List (Nat × List Nat) := []
def aap : Nat → Ann
  | 0 => ⟨[2, 3], [2, 3], [], [], [2, 3]⟩
  | 1 => ⟨[4], [], [], [], []⟩
  | _ => ⟨[], [], [], [], []⟩
noncomputable abbrev acf : Cx := ⟨Tryd.prog, ⟨id, YX, aaJ⟩, aap⟩
theorem adN {args : List PV} {r : PV} (ha : args.length = 2) (h : awp acf acb (zR Tryd.prog [.tmp 4] r []) (zP args [])) : PC Tryd.prog 104 args r :=
  zI (X := acf) mixed Tryd.func104 (c := acb) (by kernel_rfl) (by kernel_rfl) (rs := [.tmp 4]) (by kernel_rfl) (by kernel_rfl) (by rw [ha]; decide) h
noncomputable def ad8 : Code := (Tryd.f80.body).getD .skip
def abI : List (Nat × Nf) := []
def abv : List (Nat × List Nat) := []
def abN : Nat → Ann
  | 0 => ⟨[0], [], [], [], []⟩
  | 1 => ⟨[0, 3], [], [], [], []⟩
  | 2 => ⟨[2], [], [], [], []⟩
  | _ => ⟨[], [], [], [], []⟩
noncomputable abbrev aea : Cx := ⟨Tryd.prog, ⟨id, abI, abv⟩, abN⟩
theorem aeI {args : List PV} {r : PV} (ha : args.length = 1) (h : awp aea ad8 (zR Tryd.prog [.tmp 2] r []) (zP args [])) : PC Tryd.prog 80 args r :=
  zI (X := aea) mixed Tryd.func80 (c := ad8) (by kernel_rfl) (by kernel_rfl) (rs := [.tmp 2]) (by kernel_rfl) (by kernel_rfl) (by rw [ha]; decide) h
noncomputable def ad1 : Code := (Tryd.f111.body).getD .skip
def abG : List (Nat × Nf) := []
def acH : List (Nat × List Nat) := []
def acD : Nat → Ann
  | 0 => ⟨[0], [], [], [], []⟩
  | 1 => ⟨[0, 5, 6, 7], [], [], [], []⟩
  | 2 => ⟨[0, 5, 6, 7, 8], [], [], [], []⟩
  | 3 => ⟨[0, 3, 4, 5, 6, 7], [], [], [], []⟩
  | 4 => ⟨[0, 5, 6, 7, 27], [], [], [], []⟩
  | 5 => ⟨[2], [], [], [], []⟩
  | 6 => ⟨[0, 5, 6, 7], [], [], [], []⟩
  | 7 => ⟨[2], [], [], [], []⟩
  | _ => ⟨[], [], [], [], []⟩
noncomputable abbrev aeC : Cx := ⟨Tryd.prog, ⟨id, abG, acH⟩, acD⟩
theorem ae0 {args : List PV} {r : PV} (ha : args.length = 1) (h : awp aeC ad1 (zR Tryd.prog [.tmp 2] r []) (zP args [])) : PC Tryd.prog 111 args r :=
  zI (X := aeC) mixed Tryd.func111 (c := ad1) (by kernel_rfl) (by kernel_rfl) (rs := [.tmp 2]) (by kernel_rfl) (by kernel_rfl) (by rw [ha]; decide) h
noncomputable def ack : Code := (Tryd.f81.body).getD .skip
def aaD : List (Nat × Nf) := []
def aaa : List (Nat × List Nat) := []
def aaq : Nat → Ann
  | 0 => ⟨[0], [], [], [], []⟩
  | 1 => ⟨[2], [], [], [], []⟩
  | _ => ⟨[], [], [], [], []⟩
noncomputable abbrev ab0 : Cx := ⟨Tryd.prog, ⟨id, aaD, aaa⟩, aaq⟩
theorem adA {args : List PV} {r : PV} (ha : args.length = 1) (h : awp ab0 ack (zR Tryd.prog [.tmp 2] r []) (zP args [])) : PC Tryd.prog 81 args r :=
  zI (X := ab0) mixed Tryd.func81 (c := ack) (by kernel_rfl) (by kernel_rfl) (rs := [.tmp 2]) (by kernel_rfl) (by kernel_rfl) (by rw [ha]; decide) h
noncomputable def aaB : Code := (Tryd.f93.body).getD .skip
def XZ : List (Nat × Nf) := []
def Yq : List (Nat × List Nat) := []
def Xw : Nat → Ann
  | 0 => ⟨[1], [1], [], [], [1]⟩
  | 1 => ⟨[1, 9], [1], [], [], [1]⟩
  | 2 => ⟨[2], [], [], [], []⟩
  | 3 => ⟨[1, 3], [1, 3], [.thaw 3 3 1], [], [1, 3]⟩
  | 4 => ⟨[1, 3, 34, 35, 36], [1, 3], [], [], [1, 3]⟩
  | 5 => ⟨[1, 3, 34, 35, 36, 37], [1, 3], [], [], [1, 3]⟩
  | 6 => ⟨[1, 3, 5, 34, 35, 36], [1, 3, 5], [], [], [1, 3, 5]⟩
  | 7 => ⟨[1, 3, 5, 34, 35, 36, 43], [1, 3, 5], [], [], [1, 3, 5]⟩
  | 8 => ⟨[2], [], [], [], []⟩
  | 9 => ⟨[1, 3, 34, 35, 36], [1, 3], [], [], [1, 3]⟩
  | 10 => ⟨[1, 3, 34, 35, 36], [1, 3], [], [], [1, 3]⟩
  | 11 => ⟨[1, 69], [1], [], [], [1]⟩
  | 12 => ⟨[2], [], [], [], []⟩
  | 13 => ⟨[1, 71, 72, 73], [1], [], [], [1]⟩
  | 14 => ⟨[1, 71, 72, 73, 74], [1], [], [], [1]⟩
  | 15 => ⟨[1, 6, 7, 71, 72, 73], [1, 7], [], [], [1, 7]⟩
  | 16 => ⟨[1, 71, 72, 73, 94], [1], [], [], [1]⟩
  | 17 => ⟨[2], [], [], [], []⟩
  | 18 => ⟨[1, 71, 72, 73], [1], [], [], [1]⟩
  | 19 => ⟨[2], [], [], [], []⟩
  | _ => ⟨[], [], [], [], []⟩
noncomputable abbrev aau : Cx := ⟨Tryd.prog, ⟨id, XZ, Yq⟩, Xw⟩
theorem abm {args : List PV} {r : PV} (ha : args.length = 1) (h : awp aau aaB (zR Tryd.prog [.tmp 2] r []) (zP args [])) : PC Tryd.prog 93 args r :=
  zI (X := aau) mixed Tryd.func93 (c := aaB) (by kernel_rfl) (by kernel_rfl) (rs := [.tmp 2]) (by kernel_rfl) (by kernel_rfl) (by rw [ha]; decide) h
noncomputable def abY : Code := (Tryd.f94.body).getD .skip
def YR : List (Nat × Nf) := []
def Y6 : List (Nat × List Nat) := []
def aaz : Nat → Ann
  | 0 => ⟨[1], [1], [], [], [1]⟩
  | 1 => ⟨[1, 7], [1], [], [], [1]⟩
  | 2 => ⟨[2], [], [], [], []⟩
  | 3 => ⟨[1, 3], [1], [], [], [1]⟩
  | 4 => ⟨[3, 9, 10, 11], [], [], [], []⟩
  | 5 => ⟨[3, 9, 10, 11, 12], [], [], [], []⟩
  | 6 => ⟨[3, 5, 9, 10, 11], [5], [], [], [5]⟩
  | 7 => ⟨[3, 9, 10, 11], [], [], [], []⟩
  | 8 => ⟨[3, 9, 10, 11], [], [], [], []⟩
  | 9 => ⟨[2], [], [], [], []⟩
  | _ => ⟨[], [], [], [], []⟩
noncomputable abbrev acx : Cx := ⟨Tryd.prog, ⟨id, YR, Y6⟩, aaz⟩
theorem ads {args : List PV} {r : PV} (ha : args.length = 1) (h : awp acx abY (zR Tryd.prog [.tmp 2] r []) (zP args [])) : PC Tryd.prog 94 args r :=
  zI (X := acx) mixed Tryd.func94 (c := abY) (by kernel_rfl) (by kernel_rfl) (rs := [.tmp 2]) (by kernel_rfl) (by kernel_rfl) (by rw [ha]; decide) h
noncomputable def abK : Code := (Tryd.f64.body).getD .skip
def aar : List (Nat × Nf) := []
def YY : List (Nat × List Nat) := []
def aad : Nat → Ann
  | 0 => ⟨[1], [1], [], [], [1]⟩
  | 1 => ⟨[1, 3], [1], [], [], [1]⟩
  | 2 => ⟨[2], [], [], [], []⟩
  | 3 => ⟨[1, 7], [1], [], [], [1]⟩
  | 4 => ⟨[2], [], [], [], []⟩
  | 5 => ⟨[11], [], [], [], []⟩
  | 6 => ⟨[2], [], [], [], []⟩
  | 7 => ⟨[2], [], [], [], []⟩
  | _ => ⟨[], [], [], [], []⟩
noncomputable abbrev aca : Cx := ⟨Tryd.prog, ⟨id, aar, YY⟩, aad⟩
theorem adO {args : List PV} {r : PV} (ha : args.length = 1) (h : awp aca abK (zR Tryd.prog [.tmp 2] r []) (zP args [])) : PC Tryd.prog 64 args r :=
  zI (X := aca) mixed Tryd.func64 (c := abK) (by kernel_rfl) (by kernel_rfl) (rs := [.tmp 2]) (by kernel_rfl) (by kernel_rfl) (by rw [ha]; decide) h
noncomputable def abX : Code := (Tryd.f36.body).getD .skip
def Y0 : List (Nat × Nf) := []
def aah : List (Nat × List Nat) := []
def aaP : Nat → Ann
  | 0 => ⟨[1], [1], [], [], [1]⟩
  | 1 => ⟨[2], [], [], [], []⟩
  | _ => ⟨[], [], [], [], []⟩
noncomputable abbrev ach : Cx := ⟨Tryd.prog, ⟨id, Y0, aah⟩, aaP⟩
theorem adP {args : List PV} {r : PV} (ha : args.length = 1) (h : awp ach abX (zR Tryd.prog [.tmp 2] r []) (zP args [])) : PC Tryd.prog 36 args r :=
  zI (X := ach) mixed Tryd.func36 (c := abX) (by kernel_rfl) (by kernel_rfl) (rs := [.tmp 2]) (by kernel_rfl) (by kernel_rfl) (by rw [ha]; decide) h
noncomputable def ZA : Code := (Tryd.f70.body).getD .skip
def yT : List (Nat × Nf) := []
def Zg : List (Nat × List Nat) := []
def Zj : Nat → Ann
  | 0 => ⟨[0], [5], [], [], [5]⟩
  | 1 => ⟨[0, 4], [5], [], [], [5]⟩
  | 2 => ⟨[2], [5], [], [], [5]⟩
  | 3 => ⟨[2], [5], [], [], [5]⟩
  | _ => ⟨[], [], [], [], []⟩
noncomputable abbrev Zx : Cx := ⟨Tryd.prog, ⟨id, yT, Zg⟩, Zj⟩
theorem Kq {args : List PV} {r : PV} (ha : args.length = 1) (h : awp Zx ZA (zR Tryd.prog [.tmp 2] r []) (zP args [])) : PC Tryd.prog 70 args r :=
  zI (X := Zx) mixed Tryd.func70 (c := ZA) (by kernel_rfl) (by kernel_rfl) (rs := [.tmp 2]) (by kernel_rfl) (by kernel_rfl) (by rw [ha]; decide) h
noncomputable def KQ : Code := (Tryd.f100.body).getD .skip
def W9 : List (Nat × Nf) := []
def WZ : List (Nat × List Nat) := []
def WM : Nat → Ann
  | 0 => ⟨[0], [5], [], [], [5]⟩
  | 1 => ⟨[0, 4], [5], [], [], [5]⟩
  | 2 => ⟨[2], [5], [], [], [5]⟩
  | 3 => ⟨[2], [5], [], [], [5]⟩
  | _ => ⟨[], [], [], [], []⟩
noncomputable abbrev KY : Cx := ⟨Tryd.prog, ⟨id, W9, WZ⟩, WM⟩
theorem JW {args : List PV} {r : PV} (ha : args.length = 1) (h : awp KY KQ (zR Tryd.prog [.tmp 2] r []) (zP args [])) : PC Tryd.prog 100 args r :=
  zI (X := KY) mixed Tryd.func100 (c := KQ) (by kernel_rfl) (by kernel_rfl) (rs := [.tmp 2]) (by kernel_rfl) (by kernel_rfl) (by rw [ha]; decide) h
noncomputable def aak : Code := (Tryd.f75.body).getD .skip
def Yj : List (Nat × Nf) := [(28, [none, none, some 1, some 2, some 5]), (38, [none, none, some 1, some 2, some 5])]
def XV : List (Nat × List Nat) := []
def Yl : Nat → Ann
  | 0 => ⟨[1, 2, 4], [2, 4], [.nrm 4 [none, none, some 1, some 2, some 5]], [], [2, 4]⟩
  | 1 => ⟨[2, 4, 8, 9, 10], [2, 4], [], [], [2, 4]⟩
  | 2 => ⟨[2, 4, 8, 9, 10, 11], [2, 4], [], [], [2, 4]⟩
  | 3 => ⟨[2, 4, 7, 8, 9, 10], [2, 4], [], [], [2, 4]⟩
  | 4 => ⟨[2, 4, 7, 8, 9, 10, 27], [2, 4], [], [], [2, 4]⟩
  | 5 => ⟨[4, 5], [4], [], [], [4]⟩
  | 6 => ⟨[2, 4, 8, 9, 10], [2, 4], [], [], [2, 4]⟩
  | 7 => ⟨[2, 4, 8, 9, 10], [2, 4], [], [], [2, 4]⟩
  | 8 => ⟨[2, 4, 37], [2, 4], [], [], [2, 4]⟩
  | 9 => ⟨[4, 5], [4], [], [], [4]⟩
  | 10 => ⟨[4, 5], [4], [], [], [4]⟩
  | _ => ⟨[], [], [], [], []⟩
noncomputable abbrev aaj : Cx := ⟨Tryd.prog, ⟨id, Yj, XV⟩, Yl⟩
theorem ace {args : List PV} {r : PV} (ha : args.length = 2) (h : awp aaj aak (zR Tryd.prog [.cell 4 28, .tmp 5] r []) (zP args [])) : PC Tryd.prog 75 args r :=
  zI (X := aaj) mixed Tryd.func75 (c := aak) (by kernel_rfl) (by kernel_rfl) (rs := [.cell 4 28, .tmp 5]) (by kernel_rfl) (by kernel_rfl) (by rw [ha]; decide) h
noncomputable def Xa : Code := (Tryd.f97.body).getD .skip
def Jn : List (Nat × Nf) := [(24, [some 1, none, none]), (59, [some 1, none, none]), (65, [some 1, none, none]), (71, [some 1, none, none])]
def Jy : List (Nat × List Nat) := []
def Jh : Nat → Ann
  | 0 => ⟨[1, 2, 4], [2, 4], [.nrm 4 [some 1, none, none]], [], [2, 4]⟩
  | 1 => ⟨[1, 2, 4, 23], [2, 4], [], [], [2, 4]⟩
  | 2 => ⟨[4, 5], [4], [], [], [4]⟩
  | 3 => ⟨[1, 2, 4, 6], [2, 4, 6, 342], [.VA 6 0 342 1], [], [2, 4, 6, 342]⟩
  | 4 => ⟨[1, 2, 4, 6, 26, 27, 28], [2, 4, 6, 342], [], [], [2, 4, 6, 342]⟩
  | 5 => ⟨[1, 2, 4, 6, 26, 27, 28, 29], [2, 4, 6, 342], [], [], [2, 4, 6, 342]⟩
  | 6 => ⟨[1, 2, 4, 6, 7, 8, 26, 27, 28], [2, 4, 6, 8, 342], [], [], [2, 4, 6, 8, 342]⟩
  | 7 => ⟨[1, 2, 4, 6, 7, 8, 9, 26, 27, 28], [2, 4, 6, 8, 342], [], [], [2, 4, 6, 8, 342]⟩
  | 8 => ⟨[1, 2, 4, 6, 8], [2, 4, 6, 8, 342], [], [], [2, 4, 6, 8, 342]⟩
  | 9 => ⟨[1, 2, 4, 6], [2, 4, 6, 342], [], [], [2, 4, 6, 342]⟩
  | 10 => ⟨[1, 2, 4, 6, 7, 8, 9, 26, 27, 28, 44], [2, 4, 6, 8, 342], [], [], [2, 4, 6, 8, 342]⟩
  | 11 => ⟨[1, 2, 4, 6, 26, 27, 28], [2, 4, 6, 342], [], [], [2, 4, 6, 342]⟩
  | 12 => ⟨[1, 2, 4, 6, 7, 8, 51], [2, 4, 6, 8, 342], [], [], [2, 4, 6, 8, 342]⟩
  | 13 => ⟨[4, 6], [4, 6, 342], [], [], [4, 6, 342]⟩
  | 14 => ⟨[4, 5], [4], [], [], [4]⟩
  | 15 => ⟨[1, 2, 4, 6, 7, 8, 60], [2, 4, 6, 8, 342], [], [], [2, 4, 6, 8, 342]⟩
  | 16 => ⟨[4, 6], [4, 6, 342], [], [], [4, 6, 342]⟩
  | 17 => ⟨[4, 5], [4], [], [], [4]⟩
  | 18 => ⟨[1, 2, 4, 6, 26, 27, 28], [2, 4, 6, 342], [], [], [2, 4, 6, 342]⟩
  | 19 => ⟨[4, 6], [4, 6, 342], [], [], [4, 6, 342]⟩
  | 20 => ⟨[4, 5], [4], [], [], [4]⟩
  | _ => ⟨[], [], [], [], []⟩
noncomputable abbrev J6 : Cx := ⟨Tryd.prog, ⟨id, Jn, Jy⟩, Jh⟩
theorem YN {args : List PV} {r : PV} (ha : args.length = 2) (h : awp J6 Xa (zR Tryd.prog [.cell 4 149, .tmp 5] r []) (zP args [])) : PC Tryd.prog 97 args r :=
  zI (X := J6) mixed Tryd.func97 (c := Xa) (by kernel_rfl) (by kernel_rfl) (rs := [.cell 4 149, .tmp 5]) (by kernel_rfl) (by kernel_rfl) (by rw [ha]; decide) h
noncomputable def YU : Code := (Tryd.f74.body).getD .skip
def Xy : List (Nat × Nf) := []
def Yo : List (Nat × List Nat) := [(24, [6]), (25, [6]), (26, []), (27, [6]), (28, [6]), (30, [26, 29])]
def Yn : Nat → Ann
  | 0 => ⟨[1, 2], [2], [], [], [2]⟩
  | 1 => ⟨[1, 2, 10], [2], [], [], [2]⟩
  | 2 => ⟨[4, 5], [], [.nrm 4 [some 1]], [], []⟩
  | 3 => ⟨[2, 6, 7], [2, 6], [], [], [2, 6]⟩
  | 4 => ⟨[2, 6, 23], [2, 6], [], [], [2, 6]⟩
  | 5 => ⟨[4, 5], [], [.nrm 4 [some 1]], [], []⟩
  | 6 => ⟨[2, 8], [2, 26], [], [.ren 26 8], [2, 8, 26]⟩
  | 7 => ⟨[7, 8], [8], [], [], [8]⟩
  | 8 => ⟨[4, 5], [8], [], [.ren 8 4], [4, 8]⟩
  | _ => ⟨[], [], [], [], []⟩
noncomputable abbrev aay : Cx := ⟨Tryd.prog, ⟨id, Xy, Yo⟩, Yn⟩
theorem ab5 {args : List PV} {r : PV} (ha : args.length = 2) (h : awp aay YU (zR Tryd.prog [.tmp 4, .tmp 5] r []) (zP args [])) : PC Tryd.prog 74 args r :=
  zI (X := aay) mixed Tryd.func74 (c := YU) (by kernel_rfl) (by kernel_rfl) (rs := [.tmp 4, .tmp 5]) (by kernel_rfl) (by kernel_rfl) (by rw [ha]; decide) h
noncomputable def Ya : Code := (Tryd.f77.body).getD .skip
def Xc : List (Nat × Nf) := []
def J8 : List (Nat × List Nat) := []
def J7 : Nat → Ann
  | 0 => ⟨[1, 2], [2, 1000], [], [], [2, 1000]⟩
  | 1 => ⟨[3], [1000], [], [], [1000]⟩
  | _ => ⟨[], [], [], [], []⟩
noncomputable abbrev Yk : Cx := ⟨Tryd.prog, ⟨id, Xc, J8⟩, J7⟩
theorem aa9 {args : List PV} {es es' : List Ent} {r : PV} (ha : args.length = 2) (hl : es'.length = es.length) (he : (es'.all fun e => e.qQ es.length) = true) (h : awp Yk Ya (zR Tryd.prog [.tmp 3] r es') (zP args es)) : BC Tryd.prog 77 args es r es' :=
  yu (X := Yk) mixed Tryd.func77 (c := Ya) (by kernel_rfl) (by kernel_rfl) (rs := [.tmp 3]) (by kernel_rfl) (by kernel_rfl) (by rw [ha]; decide) hl (fun e h => List.all_eq_true.1 he e h) h
noncomputable def xg : Code := (Tryd.f76.body).getD .skip
def jX : List (Nat × Nf) := []
def xc : List (Nat × List Nat) := []
def j6 : Nat → Ann
  | 0 => ⟨[0, 1], [1000], [], [], [1000]⟩
  | 1 => ⟨[0, 1, 7, 8], [1000], [], [], [1000]⟩
  | 2 => ⟨[0, 1, 7, 8, 9], [1000], [], [], [1000]⟩
  | 3 => ⟨[0, 1, 5, 7, 8], [1000], [], [], [1000]⟩
  | 4 => ⟨[0, 1, 5, 7, 8, 16], [1000], [], [], [1000]⟩
  | 5 => ⟨[4], [1000], [], [], [1000]⟩
  | 6 => ⟨[0, 1, 7, 8], [1000], [], [], [1000]⟩
  | 7 => ⟨[4], [1000], [], [], [1000]⟩
  | _ => ⟨[], [], [], [], []⟩
noncomputable abbrev xe : Cx := ⟨Tryd.prog, ⟨id, jX, xc⟩, j6⟩
theorem ZU {args : List PV} {es es' : List Ent} {r : PV} (ha : args.length = 2) (hl : es'.length = es.length) (he : (es'.all fun e => e.qQ es.length) = true) (h : awp xe xg (zR Tryd.prog [.tmp 4] r es') (zP args es)) : BC Tryd.prog 76 args es r es' :=
  yu (X := xe) mixed Tryd.func76 (c := xg) (by kernel_rfl) (by kernel_rfl) (rs := [.tmp 4]) (by kernel_rfl) (by kernel_rfl) (by rw [ha]; decide) hl (fun e h => List.all_eq_true.1 he e h) h
noncomputable def ZH : Code := (Tryd.f71.body).getD .skip
def yZ : List (Nat × Nf) := []
def yY : List (Nat × List Nat) := []
def Zk : Nat → Ann
  | 0 => ⟨[0], [5], [], [], [5]⟩
  | 1 => ⟨[0, 4], [5], [], [], [5]⟩
  | 2 => ⟨[2], [5], [], [], [5]⟩
  | 3 => ⟨[2], [5], [], [], [5]⟩
  | _ => ⟨[], [], [], [], []⟩
noncomputable abbrev ZO : Cx := ⟨Tryd.prog, ⟨id, yZ, yY⟩, Zk⟩
theorem Ku {args : List PV} {r : PV} (ha : args.length = 1) (h : awp ZO ZH (zR Tryd.prog [.tmp 2] r []) (zP args [])) : PC Tryd.prog 71 args r :=
  zI (X := ZO) mixed Tryd.func71 (c := ZH) (by kernel_rfl) (by kernel_rfl) (rs := [.tmp 2]) (by kernel_rfl) (by kernel_rfl) (by rw [ha]; decide) h
noncomputable def abS : Code := (Tryd.f78.body).getD .skip
def Y1 : List (Nat × Nf) := [(18, [none, none, some 1, some 2, some 5]), (48, [none, none, none, none, some 5])]
def YZ : List (Nat × List Nat) := []
def Y9 : Nat → Ann
  | 0 => ⟨[1, 3, 5, 6], [3, 5, 6], [.nrm 6 [none, none, some 1, some 2, some 5]], [], [3, 5, 6]⟩
  | 1 => ⟨[1, 3, 5, 6, 9], [3, 5, 6], [], [], [3, 5, 6]⟩
  | 2 => ⟨[1, 3, 5, 6, 9, 17], [3, 5, 6], [], [], [3, 5, 6]⟩
  | 3 => ⟨[6, 7], [6], [], [], [6]⟩
  | 4 => ⟨[1, 3, 5, 6, 22], [3, 5, 6], [], [], [3, 5, 6]⟩
  | 5 => ⟨[6, 7], [6], [], [], [6]⟩
  | 6 => ⟨[1, 3, 5, 6], [3, 5, 6, 26], [], [.ren 26 325], [3, 5, 6, 26, 325]⟩
  | 7 => ⟨[3, 6], [3, 6, 325], [], [], [3, 6, 325]⟩
  | 8 => ⟨[6, 7], [6], [], [], [6]⟩
  | _ => ⟨[], [], [], [], []⟩
noncomputable abbrev acJ : Cx := ⟨Tryd.prog, ⟨id, Y1, YZ⟩, Y9⟩
theorem adm {args : List PV} {r : PV} (ha : args.length = 3) (h : awp acJ abS (zR Tryd.prog [.cell 6 28, .tmp 7] r []) (zP args [])) : PC Tryd.prog 78 args r :=
  zI (X := acJ) mixed Tryd.func78 (c := abS) (by kernel_rfl) (by kernel_rfl) (rs := [.cell 6 28, .tmp 7]) (by kernel_rfl) (by kernel_rfl) (by rw [ha]; decide) h
noncomputable def af7 : Code := (Tryd.f46.body).getD .skip
def aeq : List (Nat × Nf) := [(24, [none, none, some 1, some 2, some 5]), (37, [none, none, some 1, some 2, some 5]), (58, [none, none, none, some 2, none])]
def aec : List (Nat × List Nat) := []
def adW : Nat → Ann
  | 0 => ⟨[2, 3, 4], [2, 3, 4], [.nrm 4 [none, none, some 1, some 2, some 5]], [], [2, 3, 4]⟩
  | 1 => ⟨[2, 3, 4, 7, 8], [2, 3, 4], [], [], [2, 3, 4]⟩
  | 2 => ⟨[2, 3, 4, 7, 23], [2, 3, 4], [], [], [2, 3, 4]⟩
  | 3 => ⟨[4, 5, 6], [4], [], [], [4]⟩
  | 4 => ⟨[2, 3, 4, 7, 9], [2, 3, 4, 9], [], [], [2, 3, 4, 9]⟩
  | 5 => ⟨[2, 3, 4, 7, 9, 11], [2, 3, 4, 9], [], [], [2, 3, 4, 9]⟩
  | 6 => ⟨[2, 3, 4, 7, 9, 11, 36], [2, 3, 4, 9], [], [], [2, 3, 4, 9]⟩
  | 7 => ⟨[4, 5, 6], [4], [], [], [4]⟩
  | 8 => ⟨[2, 3, 4, 7, 9, 11, 12], [2, 3, 4, 9], [], [], [2, 3, 4, 9]⟩
  | 9 => ⟨[2, 3, 4, 7, 9, 11, 12], [2, 3, 4, 9, 46], [], [.ren 46 366], [2, 3, 4, 9, 46, 366]⟩
  | 10 => ⟨[2, 4, 7, 9, 12], [2, 4, 9, 366], [], [], [2, 4, 9, 366]⟩
  | 11 => ⟨[4, 12, 13, 14], [4, 13], [], [], [4, 13]⟩
  | 12 => ⟨[4, 5, 6], [4], [], [], [4]⟩
  | _ => ⟨[], [], [], [], []⟩
noncomputable abbrev afQ : Cx := ⟨Tryd.prog, ⟨id, aeq, aec⟩, adW⟩
theorem afU {args : List PV} {r : PV} (ha : args.length = 2) (h : awp afQ af7 (zR Tryd.prog [.cell 4 28, .tmp 5, .tmp 6] r []) (zP args [])) : PC Tryd.prog 46 args r :=
  zI (X := afQ) mixed Tryd.func46 (c := af7) (by kernel_rfl) (by kernel_rfl) (rs := [.cell 4 28, .tmp 5, .tmp 6]) (by kernel_rfl) (by kernel_rfl) (by rw [ha]; decide) h
noncomputable def QE : Code := (Tryd.f113.body).getD .skip
def Qx : List (Nat × Nf) := []
def Qr : List (Nat × List Nat) := []
def Qe : Nat → Ann
  | 0 => ⟨[0, 1, 2, 6], [1000, 1001], [], [], [1000, 1001]⟩
  | 1 => ⟨[0, 1, 2, 6, 35], [1000, 1001], [], [], [1000, 1001]⟩
  | 2 => ⟨[], [1000, 1001], [], [], [1000, 1001]⟩
  | 3 => ⟨[], [1000, 1001], [], [], [1000, 1001]⟩
  | _ => ⟨[], [], [], [], []⟩
noncomputable abbrev QH : Cx := ⟨Tryd.prog, ⟨id, Qx, Qr⟩, Qe⟩
theorem Vh {args : List PV} {es es' : List Ent} {r : PV} (ha : args.length = 3) (hl : es'.length = es.length) (he : (es'.all fun e => e.qQ es.length) = true) (h : awp QH QE (zR Tryd.prog [] r es') (zP args es)) : BC Tryd.prog 113 args es r es' :=
  yu (X := QH) mixed Tryd.func113 (c := QE) (by kernel_rfl) (by kernel_rfl) (rs := []) (by kernel_rfl) (by kernel_rfl) (by rw [ha]; decide) hl (fun e h => List.all_eq_true.1 he e h) h
noncomputable def ZB : Code := (Tryd.f114.body).getD .skip
def Zi : List (Nat × Nf) := []
def yV : List (Nat × List Nat) := []
def Zl : Nat → Ann
  | 0 => ⟨[0, 1, 2, 3, 4, 8], [8, 1000, 1001], [.nrm 8 [none, none, some 1, some 2, some 5]], [], [8, 1000, 1001]⟩
  | 1 => ⟨[8], [8, 1000, 1001], [.nrm 8 [none, none, none, some 2, some 5]], [], [8, 1000, 1001]⟩
  | _ => ⟨[], [], [], [], []⟩
noncomputable abbrev ZI : Cx := ⟨Tryd.prog, ⟨id, Zi, yV⟩, Zl⟩
theorem Kc {args : List PV} {es es' : List Ent} {r : PV} (ha : args.length = 5) (hl : es'.length = es.length) (he : (es'.all fun e => e.qQ es.length) = true) (h : awp ZI ZB (zR Tryd.prog [.cell 8 28] r es') (zP args es)) : BC Tryd.prog 114 args es r es' :=
  yu (X := ZI) mixed Tryd.func114 (c := ZB) (by kernel_rfl) (by kernel_rfl) (rs := [.cell 8 28]) (by kernel_rfl) (by kernel_rfl) (by rw [ha]; decide) hl (fun e h => List.all_eq_true.1 he e h) h
noncomputable def QI : Code := (Tryd.f101.body).getD .skip
def ZX : List (Nat × Nf) := []
def Qd : List (Nat × List Nat) := [(69, [4]), (70, [4]), (71, [4, 7, 999999]), (76, [4, 7, 999999]), (79, [7]), (81, [4]), (82, [4]), (83, [4, 7, 999999])]
def Qf : Nat → Ann
  | 0 => ⟨[0, 2, 4], [4, 1000, 1001], [], [], [4, 1000, 1001]⟩
  | 1 => ⟨[0, 2, 4, 7], [4, 7, 1000, 1001], [], [], [4, 7, 1000, 1001]⟩
  | 2 => ⟨[0, 2, 4, 7, 8], [4, 7, 1000, 1001], [], [], [4, 7, 1000, 1001]⟩
  | 3 => ⟨[0, 2, 4, 7, 8, 9], [4, 7, 1000, 1001], [], [], [4, 7, 1000, 1001]⟩
  | 4 => ⟨[0, 2, 4, 7, 8, 9, 10, 11], [4, 7, 1000, 1001], [], [], [4, 7, 1000, 1001]⟩
  | 5 => ⟨[0, 2, 4, 7, 8, 9, 10, 55], [4, 7, 1000, 1001], [], [], [4, 7, 1000, 1001]⟩
  | 6 => ⟨[6], [57, 1000, 1001], [], [.ren 57 6], [6, 57, 1000, 1001]⟩
  | 7 => ⟨[4, 7, 8, 9, 10], [4, 7, 1000, 1001], [], [], [4, 7, 1000, 1001]⟩
  | 8 => ⟨[4, 7, 8, 9, 10, 12], [4, 7, 1000, 1001], [], [], [4, 7, 1000, 1001]⟩
  | 9 => ⟨[6], [84, 1000, 1001], [], [.ren 84 6], [6, 84, 1000, 1001]⟩
  | _ => ⟨[], [], [], [], []⟩
noncomputable abbrev QF : Cx := ⟨Tryd.prog, ⟨id, ZX, Qd⟩, Qf⟩
theorem Vj {args : List PV} {es es' : List Ent} {r : PV} (ha : args.length = 3) (hl : es'.length = es.length) (he : (es'.all fun e => e.qQ es.length) = true) (h : awp QF QI (zR Tryd.prog [.tmp 6] r es') (zP args es)) : BC Tryd.prog 101 args es r es' :=
  yu (X := QF) mixed Tryd.func101 (c := QI) (by kernel_rfl) (by kernel_rfl) (rs := [.tmp 6]) (by kernel_rfl) (by kernel_rfl) (by rw [ha]; decide) hl (fun e h => List.all_eq_true.1 he e h) h
noncomputable def ad7 : Code := (Tryd.f82.body).getD .skip
def acO : List (Nat × Nf) := []
def abW : List (Nat × List Nat) := []
def ab8 : Nat → Ann
  | 0 => ⟨[0], [], [], [], []⟩
  | 1 => ⟨[0, 3], [3], [.thaw 3 3 5], [], [3]⟩
  | 2 => ⟨[3, 7, 8, 9], [3], [], [], [3]⟩
  | 3 => ⟨[3, 7, 8, 9, 10], [3], [], [], [3]⟩
  | 4 => ⟨[3, 5, 7, 8, 9], [3, 5], [], [], [3, 5]⟩
  | 5 => ⟨[3, 5, 6, 7, 8, 9], [3, 5], [], [], [3, 5]⟩
  | 6 => ⟨[3, 7, 8, 9], [3], [], [], [3]⟩
  | 7 => ⟨[3, 5, 6, 7, 8, 9, 20], [3, 5], [], [], [3, 5]⟩
  | 8 => ⟨[3, 5, 6, 7, 8, 9, 28], [3, 5], [], [], [3, 5]⟩
  | 9 => ⟨[3, 5, 6, 7, 8, 9], [3, 5], [], [], [3, 5]⟩
  | 10 => ⟨[3, 7, 8, 9], [3], [], [], [3]⟩
  | 11 => ⟨[3, 7, 8, 9], [3], [], [], [3]⟩
  | 12 => ⟨[2], [3], [], [.ren 3 2], [2, 3]⟩
  | _ => ⟨[], [], [], [], []⟩
noncomputable abbrev ad2 : Cx := ⟨Tryd.prog, ⟨id, acO, abW⟩, ab8⟩
theorem aeT {args : List PV} {r : PV} (ha : args.length = 1) (h : awp ad2 ad7 (zR Tryd.prog [.tmp 2] r []) (zP args [])) : PC Tryd.prog 82 args r :=
  zI (X := ad2) mixed Tryd.func82 (c := ad7) (by kernel_rfl) (by kernel_rfl) (rs := [.tmp 2]) (by kernel_rfl) (by kernel_rfl) (by rw [ha]; decide) h
noncomputable def QB : Code := (Tryd.f79.body).getD .skip
def Z7 : List (Nat × Nf) := []
def Z6 : List (Nat × List Nat) := []
def Qq : Nat → Ann
  | 0 => ⟨[0, 1, 2], [1000, 1001], [], [], [1000, 1001]⟩
  | 1 => ⟨[0, 1, 2, 7], [7, 1000, 1001], [.thaw 7 7 5], [], [7, 1000, 1001]⟩
  | 2 => ⟨[0, 2, 7, 11, 12, 13], [7, 1000, 1001], [], [], [7, 1000, 1001]⟩
  | 3 => ⟨[0, 2, 7, 11, 12, 13, 14], [7, 1000, 1001], [], [], [7, 1000, 1001]⟩
  | 4 => ⟨[0, 2, 7, 9, 11, 12, 13], [7, 9, 1000, 1001], [], [], [7, 9, 1000, 1001]⟩
  | 5 => ⟨[0, 2, 7, 9, 10, 11, 12, 13], [7, 9, 1000, 1001], [], [], [7, 9, 1000, 1001]⟩
  | 6 => ⟨[0, 2, 7, 9, 10, 11, 12, 13, 21], [7, 9, 1000, 1001], [], [], [7, 9, 1000, 1001]⟩
  | 7 => ⟨[0, 2, 7, 10, 11, 12, 13], [7, 1000, 1001], [], [], [7, 1000, 1001]⟩
  | 8 => ⟨[0, 2, 7, 9, 10, 11, 12, 13], [7, 9, 1000, 1001], [], [], [7, 9, 1000, 1001]⟩
  | 9 => ⟨[0, 2, 7, 10, 11, 12, 13], [7, 1000, 1001], [], [], [7, 1000, 1001]⟩
  | 10 => ⟨[0, 2, 7, 11, 12, 13], [7, 1000, 1001], [], [], [7, 1000, 1001]⟩
  | 11 => ⟨[0, 2, 7, 11, 12, 13], [7, 1000, 1001], [], [], [7, 1000, 1001]⟩
  | 12 => ⟨[6], [1000, 1001], [], [], [1000, 1001]⟩
  | _ => ⟨[], [], [], [], []⟩
noncomputable abbrev QK : Cx := ⟨Tryd.prog, ⟨id, Z7, Z6⟩, Qq⟩
theorem Vk {args : List PV} {es es' : List Ent} {r : PV} (ha : args.length = 3) (hl : es'.length = es.length) (he : (es'.all fun e => e.qQ es.length) = true) (h : awp QK QB (zR Tryd.prog [.tmp 6] r es') (zP args es)) : BC Tryd.prog 79 args es r es' :=
  yu (X := QK) mixed Tryd.func79 (c := QB) (by kernel_rfl) (by kernel_rfl) (rs := [.tmp 6]) (by kernel_rfl) (by kernel_rfl) (by rw [ha]; decide) hl (fun e h => List.all_eq_true.1 he e h) h
noncomputable def acr : Code := (Tryd.f47.body).getD .skip
def aag : List (Nat × Nf) := [(14, [none, none, some 1, some 2, some 5])]
def Y7 : List (Nat × List Nat) := [(23, [2]), (25, [17]), (26, [17]), (27, [17]), (500004, [4])]
def Y3 : Nat → Ann
  | 0 => ⟨[2, 3, 4], [2, 3, 4], [.nrm 4 [none, none, some 1, some 2, some 5]], [], [2, 3, 4]⟩
  | 1 => ⟨[2, 3, 4, 13], [2, 3, 4], [], [], [2, 3, 4]⟩
  | 2 => ⟨[4, 5, 6], [4], [.nrm 5 [some 3]], [], [4]⟩
  | 3 => ⟨[2, 4, 7], [2, 4, 17, 425], [.VA 17 6 425 3], [], [2, 4, 17, 425]⟩
  | 4 => ⟨[2, 4, 7], [2, 4, 17, 425], [], [], [2, 4, 17, 425]⟩
  | 5 => ⟨[4, 5, 6], [4, 425], [], [.ren 425 5], [4, 5, 425]⟩
  | _ => ⟨[], [], [], [], []⟩
noncomputable abbrev abC : Cx := ⟨Tryd.prog, ⟨id, aag, Y7⟩, Y3⟩
theorem adg {args : List PV} {r : PV} (ha : args.length = 2) (h : awp abC acr (zR Tryd.prog [.cell 4 28, .tmp 5, .tmp 6] r []) (zP args [])) : PC Tryd.prog 47 args r :=
  zI (X := abC) mixed Tryd.func47 (c := acr) (by kernel_rfl) (by kernel_rfl) (rs := [.cell 4 28, .tmp 5, .tmp 6]) (by kernel_rfl) (by kernel_rfl) (by rw [ha]; decide) h
noncomputable def abV : Code := (Tryd.f48.body).getD .skip
def aac : List (Nat × Nf) := [(26, [none, none, some 1, some 2, none])]
def YV : List (Nat × List Nat) := []
def YQ : Nat → Ann
  | 0 => ⟨[1], [1], [], [], [1]⟩
  | 1 => ⟨[1, 3], [1], [], [], [1]⟩
  | 2 => ⟨[1, 3, 21], [1], [], [], [1]⟩
  | 3 => ⟨[1, 3, 21, 22], [1], [], [], [1]⟩
  | 4 => ⟨[1, 3, 4], [1], [], [], [1]⟩
  | 5 => ⟨[2], [], [], [], []⟩
  | 6 => ⟨[1, 3, 21, 41], [1], [], [], [1]⟩
  | 7 => ⟨[2], [], [], [], []⟩
  | 8 => ⟨[1, 3, 21, 72], [1], [], [], [1]⟩
  | 9 => ⟨[1, 3, 72], [1], [], [], [1]⟩
  | 10 => ⟨[2], [], [], [], []⟩
  | 11 => ⟨[2], [], [], [], []⟩
  | _ => ⟨[], [], [], [], []⟩
noncomputable abbrev abD : Cx := ⟨Tryd.prog, ⟨id, aac, YV⟩, YQ⟩
theorem adD {args : List PV} {r : PV} (ha : args.length = 1) (h : awp abD abV (zR Tryd.prog [.tmp 2] r []) (zP args [])) : PC Tryd.prog 48 args r :=
  zI (X := abD) mixed Tryd.func48 (c := abV) (by kernel_rfl) (by kernel_rfl) (rs := [.tmp 2]) (by kernel_rfl) (by kernel_rfl) (by rw [ha]; decide) h
noncomputable def Vz : Code := (Tryd.f96.body).getD .skip
def Vb : List (Nat × Nf) := [(4, [some 1, none, none, some 1, some 2, some 5, none, none])]
def KN : List (Nat × List Nat) := []
def KP : Nat → Ann
  | 0 => ⟨[1, 3], [1000, 1001], [], [], [1000, 1001]⟩
  | 1 => ⟨[], [1000, 1001], [], [], [1000, 1001]⟩
  | _ => ⟨[], [], [], [], []⟩
noncomputable abbrev Vs : Cx := ⟨Tryd.prog, ⟨id, Vb, KN⟩, KP⟩
theorem Xe {args : List PV} {es es' : List Ent} {r : PV} (ha : args.length = 2) (hl : es'.length = es.length) (he : (es'.all fun e => e.qQ es.length) = true) (h : awp Vs Vz (zR Tryd.prog [] r es') (zP args es)) : BD Tryd.prog 96 args es r es' :=
  aoN (X := Vs) mixed Tryd.func96 (c := Vz) (by kernel_rfl) (rs := []) (by kernel_rfl) (by kernel_rfl) (by rw [ha]; decide) hl (fun e h => List.all_eq_true.1 he e h) h
noncomputable def KF : Code := (Tryd.f98.body).getD .skip
def WL : List (Nat × Nf) := []
def WY : List (Nat × List Nat) := []
def WQ : Nat → Ann
  | 0 => ⟨[0, 1], [], [], [], []⟩
  | 1 => ⟨[0, 1, 10], [], [], [], []⟩
  | 2 => ⟨[4], [], [], [], []⟩
  | 3 => ⟨[0, 1, 12, 13], [], [], [], []⟩
  | 4 => ⟨[0, 1, 12, 13, 14], [], [], [], []⟩
  | 5 => ⟨[0, 1, 5, 12, 13], [], [], [], []⟩
  | 6 => ⟨[0, 1, 12, 13, 24], [], [], [], []⟩
  | 7 => ⟨[4], [], [], [], []⟩
  | 8 => ⟨[0, 1, 12, 13], [], [], [], []⟩
  | 9 => ⟨[4], [], [], [], []⟩
  | _ => ⟨[], [], [], [], []⟩
noncomputable abbrev K6 : Cx := ⟨Tryd.prog, ⟨id, WL, WY⟩, WQ⟩
theorem JG {args : List PV} {r : PV} (ha : args.length = 2) (h : awp K6 KF (zR Tryd.prog [.tmp 4] r []) (zP args [])) : PC Tryd.prog 98 args r :=
  zI (X := K6) mixed Tryd.func98 (c := KF) (by kernel_rfl) (by kernel_rfl) (rs := [.tmp 4]) (by kernel_rfl) (by kernel_rfl) (by rw [ha]; decide) h
noncomputable def aas : Code := (Tryd.f99.body).getD .skip
def XF : List (Nat × Nf) := []
def Yt : List (Nat × List Nat) := []
def XT : Nat → Ann
  | 0 => ⟨[1, 2], [2], [], [], [2]⟩
  | 1 => ⟨[1, 2, 7], [2], [], [], [2]⟩
  | 2 => ⟨[1, 2, 7, 18], [2], [], [], [2]⟩
  | 3 => ⟨[4, 5], [], [], [], []⟩
  | 4 => ⟨[1, 2, 8], [2], [], [], [2]⟩
  | 5 => ⟨[2, 8, 20, 21, 22], [2], [], [], [2]⟩
  | 6 => ⟨[2, 8, 20, 21, 22, 23], [2], [], [], [2]⟩
  | 7 => ⟨[2, 8, 10, 20, 21, 22], [2], [], [], [2]⟩
  | 8 => ⟨[2, 8, 10, 20, 21, 22], [2], [], [], [2]⟩
  | 9 => ⟨[2, 8, 20, 21, 22], [2], [], [], [2]⟩
  | 10 => ⟨[2, 8, 20, 21, 22], [2], [], [], [2]⟩
  | 11 => ⟨[4, 5], [], [], [], []⟩
  | _ => ⟨[], [], [], [], []⟩
noncomputable abbrev Y4 : Cx := ⟨Tryd.prog, ⟨id, XF, Yt⟩, XT⟩
theorem abP {args : List PV} {r : PV} (ha : args.length = 2) (h : awp Y4 aas (zR Tryd.prog [.tmp 4, .tmp 5] r []) (zP args [])) : PC Tryd.prog 99 args r :=
  zI (X := Y4) mixed Tryd.func99 (c := aas) (by kernel_rfl) (by kernel_rfl) (rs := [.tmp 4, .tmp 5]) (by kernel_rfl) (by kernel_rfl) (by rw [ha]; decide) h
def XA : List (Nat × Nf) := []
def Xz : List (Nat × List Nat) := [(31, [1001]), (32, [1000]), (42, [1001]), (43, [1000]), (71, [8]), (72, [8]), (73, [12]), (81, [1000]), (500006, [1001]), (500007, [1000])]
def X5 : Nat → Ann
  | 0 => ⟨[1, 2, 3, 6, 7], [3, 6, 7], [.nrm 6 [some 1, none, none, some 1, some 2, some 5, none, none]], [], [3, 6, 7]⟩
  | 1 => ⟨[1, 2, 3, 6, 7], [], [], [], []⟩
  | 2 => ⟨[1, 2, 3, 6, 7, 21], [3, 1000, 1001], [], [], [3, 1000, 1001]⟩
  | 3 => ⟨[6, 7], [1000, 1001], [], [], [1000, 1001]⟩
  | 4 => ⟨[1, 2, 3, 6, 7, 8], [3, 8, 1000, 1001], [], [], [3, 8, 1000, 1001]⟩
  | 5 => ⟨[1, 2, 3, 6, 7, 8, 30], [3, 8, 1000, 1001], [], [], [3, 8, 1000, 1001]⟩
  | 6 => ⟨[6, 7], [1000, 1001], [], [], [1000, 1001]⟩
  | 7 => ⟨[1, 2, 3, 6, 7, 8, 9], [3, 8, 9, 1000, 1001], [], [], [3, 8, 9, 1000, 1001]⟩
  | 8 => ⟨[1, 2, 3, 6, 7, 8, 9, 39], [3, 8, 9, 1000, 1001], [], [], [3, 8, 9, 1000, 1001]⟩
  | 9 => ⟨[6, 7], [1000, 1001], [], [], [1000, 1001]⟩
  | 10 => ⟨[1, 2, 3, 6, 7, 8, 9, 44], [3, 8, 9, 1000, 1001], [], [], [3, 8, 9, 1000, 1001]⟩
  | 11 => ⟨[6, 7], [1000, 1001], [], [], [1000, 1001]⟩
  | 12 => ⟨[1, 2, 3, 6, 7, 8, 49], [3, 8, 1000, 1001], [], [], [3, 8, 1000, 1001]⟩
  | 13 => ⟨[6, 7], [1000, 1001], [], [], [1000, 1001]⟩
  | 14 => ⟨[1, 2, 3, 6, 7, 8, 10], [3, 8, 1000, 1001], [], [], [3, 8, 1000, 1001]⟩
  | 15 => ⟨[1, 2, 6, 7, 8, 10, 12], [8, 12, 1000, 1001], [], [], [8, 12, 1000, 1001]⟩
  | 16 => ⟨[6, 7], [1000, 1001], [], [], [1000, 1001]⟩
  | _ => ⟨[], [], [], [], []⟩
noncomputable abbrev VL : Cx := ⟨Tryd.prog, ⟨id, XA, Xz⟩, X5⟩
noncomputable def Yg : Code := match Tryd.f72.body with | some (.seq c _) => c | _ => .skip
noncomputable def Xt : Code := match Tryd.f72.body with | some (.seq _ (.seq _ c)) => c | _ => .skip
noncomputable def afi : Oper := match Tryd.f72.body with | some (.seq _ (.seq (.region _ ops _) _)) => (ops[0]?).getD ⟨none, .move (.tmp 0), 0, "", #[], none⟩ | _ => ⟨none, .move (.tmp 0), 0, "", #[], none⟩
noncomputable def ag6 : Oper := match Tryd.f72.body with | some (.seq _ (.seq (.region _ ops _) _)) => (ops[1]?).getD ⟨none, .move (.tmp 0), 0, "", #[], none⟩ | _ => ⟨none, .move (.tmp 0), 0, "", #[], none⟩
theorem acT {args : List PV} {r : PV} (ha : args.length = 3) (h : awp VL Yg (midD VL 96 13 7 6 Xt [.cell 6 123, .cell 7 31] r) (zP args [])) : PC Tryd.prog 72 args r :=
  amz (X := VL) (id := 1) (o1 := afi) (o2 := ag6) (c0 := Yg) (c1 := Xt) mixed Tryd.func72 (by kernel_rfl) ⟨by rfl, by rfl, by rfl⟩ ⟨⟨_, by rfl⟩, by rfl, by rfl⟩ (by kernel_rfl) ⟨_, Tryd.func96, by kernel_rfl, by kernel_rfl⟩ (rs := [.cell 6 123, .cell 7 31]) (by kernel_rfl) (by kernel_rfl) (by kernel_rfl) (by rw [ha]; decide) (by decide) h
noncomputable def aav : Code := (Tryd.f73.body).getD .skip
def Yf : List (Nat × Nf) := []
def X9 : List (Nat × List Nat) := [(44, []), (45, []), (48, []), (49, []), (75, []), (76, []), (79, []), (80, []), (81, [11]), (82, [9]), (83, [9]), (500081, [11]), (500083, [9])]
def XP : Nat → Ann
  | 0 => ⟨[0, 1], [], [], [], []⟩
  | 1 => ⟨[0, 1, 19], [], [], [], []⟩
  | 2 => ⟨[4, 5, 6], [], [.nrm 4 [some 5], .nrm 5 [some 5]], [], []⟩
  | 3 => ⟨[0, 1, 7], [], [], [], []⟩
  | 4 => ⟨[0, 1, 7, 32], [], [], [], []⟩
  | 5 => ⟨[0, 1, 7], [], [], [], []⟩
  | 6 => ⟨[0, 1, 7], [], [], [], []⟩
  | 7 => ⟨[0, 1, 7, 8, 9], [45, 49], [], [.ren 45 8, .ren 49 9], [8, 9, 45, 49]⟩
  | 8 => ⟨[0, 1, 7, 8, 9, 50], [8, 9], [], [], [8, 9]⟩
  | 9 => ⟨[4, 5, 6], [8, 9], [], [.ren 8 4, .ren 9 5], [4, 5, 8, 9]⟩
  | 10 => ⟨[0, 1, 7, 8, 9, 55], [8, 9], [], [], [8, 9]⟩
  | 11 => ⟨[4, 5, 6], [], [.nrm 4 [some 5], .nrm 5 [some 5]], [], []⟩
  | 12 => ⟨[0, 1, 7, 8, 9, 10], [8, 9], [], [], [8, 9]⟩
  | 13 => ⟨[1, 8, 9, 10, 11], [8, 9, 11], [], [], [8, 9, 11]⟩
  | 14 => ⟨[8, 9, 11], [8, 9, 11], [], [], [8, 9, 11]⟩
  | 15 => ⟨[4, 5, 6], [8, 9], [], [.ren 8 4, .ren 9 5], [4, 5, 8, 9]⟩
  | _ => ⟨[], [], [], [], []⟩
noncomputable abbrev aaK : Cx := ⟨Tryd.prog, ⟨id, Yf, X9⟩, XP⟩
theorem abO {args : List PV} {r : PV} (ha : args.length = 2) (h : awp aaK aav (zR Tryd.prog [.tmp 4, .tmp 5, .tmp 6] r []) (zP args [])) : PC Tryd.prog 73 args r :=
  zI (X := aaK) mixed Tryd.func73 (c := aav) (by kernel_rfl) (by kernel_rfl) (rs := [.tmp 4, .tmp 5, .tmp 6]) (by kernel_rfl) (by kernel_rfl) (by rw [ha]; decide) h
noncomputable def y9 : Code := (Tryd.f83.body).getD .skip
def yJ : List (Nat × Nf) := []
def yG : List (Nat × List Nat) := []
def yL : Nat → Ann
  | 0 => ⟨[0], [], [], [], []⟩
  | 1 => ⟨[0, 3], [], [], [], []⟩
  | 2 => ⟨[0, 3, 9, 10, 11], [], [], [], []⟩
  | 3 => ⟨[0, 3, 9, 10, 11, 12], [], [], [], []⟩
  | 4 => ⟨[0, 3, 5, 9, 10, 11], [], [], [], []⟩
  | 5 => ⟨[0, 3, 9, 10, 11], [], [], [], []⟩
  | 6 => ⟨[0, 3, 9, 10, 11, 20], [], [], [], []⟩
  | 7 => ⟨[0, 3, 9, 10, 11], [], [], [], []⟩
  | 8 => ⟨[0, 3, 9, 10, 11], [], [], [], []⟩
  | 9 => ⟨[0, 6], [24], [], [.ren 24 6], [6, 24]⟩
  | 10 => ⟨[6, 25, 26, 27], [6], [], [], [6]⟩
  | 11 => ⟨[6, 25, 26, 27, 28], [6], [], [], [6]⟩
  | 12 => ⟨[6, 8, 25, 26, 27], [6], [], [], [6]⟩
  | 13 => ⟨[6, 25, 26, 27], [6], [], [], [6]⟩
  | 14 => ⟨[6, 25, 26, 27], [6], [], [], [6]⟩
  | 15 => ⟨[2], [6], [], [.ren 6 2], [2, 6]⟩
  | _ => ⟨[], [], [], [], []⟩
noncomputable abbrev y8 : Cx := ⟨Tryd.prog, ⟨id, yJ, yG⟩, yL⟩
theorem WG {args : List PV} {r : PV} (ha : args.length = 1) (h : awp y8 y9 (zR Tryd.prog [.tmp 2] r []) (zP args [])) : PC Tryd.prog 83 args r :=
  zI (X := y8) mixed Tryd.func83 (c := y9) (by kernel_rfl) (by kernel_rfl) (rs := [.tmp 2]) (by kernel_rfl) (by kernel_rfl) (by rw [ha]; decide) h
noncomputable def adY : Code := (Tryd.f49.body).getD .skip
def abF : List (Nat × Nf) := [(33, [none, none, some 1, some 2, none]), (37, [none, none, some 1, some 2, some 5]), (40, [none, none, some 1, some 2, some 5]), (83, [none, none, some 1, some 2, some 5])]
def acR : List (Nat × List Nat) := []
def ab2 : Nat → Ann
  | 0 => ⟨[1, 2, 3, 4, 8], [4, 8], [.nrm 8 [none, none, some 1, some 2, some 5]], [], [4, 8]⟩
  | 1 => ⟨[3, 4, 8, 10, 11], [4, 8, 10], [], [], [4, 8, 10]⟩
  | 2 => ⟨[3, 4, 8, 10, 11, 36], [4, 8, 10], [], [], [4, 8, 10]⟩
  | 3 => ⟨[8, 9], [8], [], [], [8]⟩
  | 4 => ⟨[3, 4, 8, 10, 11, 39], [4, 8, 10], [], [], [4, 8, 10]⟩
  | 5 => ⟨[8, 9], [8], [], [], [8]⟩
  | 6 => ⟨[3, 4, 8, 10, 12], [4, 8, 10], [], [], [4, 8, 10]⟩
  | 7 => ⟨[3, 4, 8, 10, 12, 16], [4, 8, 10], [], [], [4, 8, 10]⟩
  | 8 => ⟨[4, 8, 10], [4, 8, 10], [], [], [4, 8, 10]⟩
  | 9 => ⟨[8, 18], [8, 18], [], [], [8, 18]⟩
  | 10 => ⟨[8, 18, 20], [8, 18], [], [], [8, 18]⟩
  | 11 => ⟨[8, 18, 20, 82], [8, 18], [], [], [8, 18]⟩
  | 12 => ⟨[8, 9], [8], [], [], [8]⟩
  | 13 => ⟨[8, 9], [8], [], [], [8]⟩
  | _ => ⟨[], [], [], [], []⟩
noncomputable abbrev aer : Cx := ⟨Tryd.prog, ⟨id, abF, acR⟩, ab2⟩
theorem aeV {args : List PV} {r : PV} (ha : args.length = 4) (h : awp aer adY (zR Tryd.prog [.cell 8 28, .tmp 9] r []) (zP args [])) : PC Tryd.prog 49 args r :=
  zI (X := aer) mixed Tryd.func49 (c := adY) (by kernel_rfl) (by kernel_rfl) (rs := [.cell 8 28, .tmp 9]) (by kernel_rfl) (by kernel_rfl) (by rw [ha]; decide) h
noncomputable def aby : Code := (Tryd.f17.body).getD .skip
def aaC : List (Nat × Nf) := [(16, [none, none, some 1, some 2, some 5]), (26, [none, none, some 1, some 2, some 5])]
def aaL : List (Nat × List Nat) := []
def Y8 : Nat → Ann
  | 0 => ⟨[2, 3, 4], [2, 3, 4], [.nrm 4 [none, none, some 1, some 2, some 5]], [], [2, 3, 4]⟩
  | 1 => ⟨[2, 3, 4, 12], [2, 3, 4], [], [], [2, 3, 4]⟩
  | 2 => ⟨[4, 5], [4], [], [], [4]⟩
  | 3 => ⟨[2, 3, 4, 17], [2, 3, 4], [], [], [2, 3, 4]⟩
  | 4 => ⟨[4, 5], [4], [], [], [4]⟩
  | 5 => ⟨[2, 3, 4, 27], [2, 3, 4], [], [], [2, 3, 4]⟩
  | 6 => ⟨[4, 5], [4], [], [], [4]⟩
  | 7 => ⟨[2, 3, 4, 41], [2, 3, 4], [], [], [2, 3, 4]⟩
  | 8 => ⟨[4, 6, 8], [4, 6], [], [], [4, 6]⟩
  | 9 => ⟨[4, 5], [4], [], [], [4]⟩
  | 10 => ⟨[4, 9, 11], [4, 9], [], [], [4, 9]⟩
  | 11 => ⟨[4, 5], [4], [], [], [4]⟩
  | _ => ⟨[], [], [], [], []⟩
noncomputable abbrev abA : Cx := ⟨Tryd.prog, ⟨id, aaC, aaL⟩, Y8⟩
theorem adi {args : List PV} {r : PV} (ha : args.length = 2) (h : awp abA aby (zR Tryd.prog [.cell 4 28, .tmp 5] r []) (zP args [])) : PC Tryd.prog 17 args r :=
  zI (X := abA) mixed Tryd.func17 (c := aby) (by kernel_rfl) (by kernel_rfl) (rs := [.cell 4 28, .tmp 5]) (by kernel_rfl) (by kernel_rfl) (by rw [ha]; decide) h
noncomputable def agG : Code := (Tryd.f14.body).getD .skip
def aey : List (Nat × Nf) := [(23, [none, none, some 1, some 2, some 5])]
def aep : List (Nat × List Nat) := []
def aeB : Nat → Ann
  | 0 => ⟨[1, 2, 4], [2, 4], [.nrm 4 [none, none, some 1, some 2, some 5]], [], [2, 4]⟩
  | 1 => ⟨[1, 2, 4], [2, 4], [], [], [2, 4]⟩
  | 2 => ⟨[2, 4, 9, 10, 11], [2, 4], [], [], [2, 4]⟩
  | 3 => ⟨[2, 4, 9, 10, 11, 12], [2, 4], [], [], [2, 4]⟩
  | 4 => ⟨[2, 4, 8, 9, 10, 11], [2, 4, 8], [], [], [2, 4, 8]⟩
  | 5 => ⟨[2, 4, 6, 9, 10, 11], [2, 4], [], [], [2, 4]⟩
  | 6 => ⟨[2, 4, 6, 9, 10, 11, 22], [2, 4], [], [], [2, 4]⟩
  | 7 => ⟨[4, 5], [4], [], [], [4]⟩
  | 8 => ⟨[2, 4, 9, 10, 11], [2, 4], [], [], [2, 4]⟩
  | 9 => ⟨[4, 5], [4], [], [], [4]⟩
  | _ => ⟨[], [], [], [], []⟩
noncomputable abbrev agj : Cx := ⟨Tryd.prog, ⟨id, aey, aep⟩, aeB⟩
theorem af3 {args : List PV} {r : PV} (ha : args.length = 2) (h : awp agj agG (zR Tryd.prog [.cell 4 28, .tmp 5] r []) (zP args [])) : PC Tryd.prog 14 args r :=
  zI (X := agj) mixed Tryd.func14 (c := agG) (by kernel_rfl) (by kernel_rfl) (rs := [.cell 4 28, .tmp 5]) (by kernel_rfl) (by kernel_rfl) (by rw [ha]; decide) h
noncomputable def Zv : Code := (Tryd.f43.body).getD .skip
def yX : List (Nat × Nf) := []
def Zh : List (Nat × List Nat) := []
def Zf : Nat → Ann
  | 0 => ⟨[0, 1], [], [], [], []⟩
  | 1 => ⟨[0, 1, 10], [], [], [], []⟩
  | 2 => ⟨[4], [], [], [], []⟩
  | 3 => ⟨[0, 1, 12, 13], [], [], [], []⟩
  | 4 => ⟨[0, 1, 12, 13, 14], [], [], [], []⟩
  | 5 => ⟨[0, 1, 5, 12, 13], [], [], [], []⟩
  | 6 => ⟨[0, 1, 12, 13, 24], [], [], [], []⟩
  | 7 => ⟨[4], [], [], [], []⟩
  | 8 => ⟨[0, 1, 12, 13], [], [], [], []⟩
  | 9 => ⟨[4], [], [], [], []⟩
  | _ => ⟨[], [], [], [], []⟩
noncomputable abbrev ZK : Cx := ⟨Tryd.prog, ⟨id, yX, Zh⟩, Zf⟩
theorem Km {args : List PV} {r : PV} (ha : args.length = 2) (h : awp ZK Zv (zR Tryd.prog [.tmp 4] r []) (zP args [])) : PC Tryd.prog 43 args r :=
  zI (X := ZK) mixed Tryd.func43 (c := Zv) (by kernel_rfl) (by kernel_rfl) (rs := [.tmp 4]) (by kernel_rfl) (by kernel_rfl) (by rw [ha]; decide) h
noncomputable def vR : Code := (Tryd.f44.body).getD .skip
def vD : List (Nat × Nf) := []
def vE : List (Nat × List Nat) := []
def vG : Nat → Ann
  | 0 => ⟨[0, 1, 2], [], [], [], []⟩
  | 1 => ⟨[0, 1, 2, 14], [], [], [], []⟩
  | 2 => ⟨[6], [], [], [], []⟩
  | 3 => ⟨[1, 2, 15, 16, 17], [], [], [], []⟩
  | 4 => ⟨[1, 2, 15, 16, 17, 18], [], [], [], []⟩
  | 5 => ⟨[1, 2, 7, 8, 15, 16, 17], [8], [], [], [8]⟩
  | 6 => ⟨[1, 2, 8, 9, 15, 16, 17], [8, 9], [], [], [8, 9]⟩
  | 7 => ⟨[1, 2, 15, 16, 17, 30], [], [], [], []⟩
  | 8 => ⟨[6], [], [], [], []⟩
  | 9 => ⟨[1, 2, 15, 16, 17], [], [], [], []⟩
  | 10 => ⟨[6], [], [], [], []⟩
  | _ => ⟨[], [], [], [], []⟩
noncomputable abbrev vQ : Cx := ⟨Tryd.prog, ⟨id, vD, vE⟩, vG⟩
theorem xA {args : List PV} {r : PV} (ha : args.length = 3) (h : awp vQ vR (zR Tryd.prog [.tmp 6] r []) (zP args [])) : PC Tryd.prog 44 args r :=
  zI (X := vQ) mixed Tryd.func44 (c := vR) (by kernel_rfl) (by kernel_rfl) (rs := [.tmp 6]) (by kernel_rfl) (by kernel_rfl) (by rw [ha]; decide) h
noncomputable def aem : Code := (Tryd.f15.body).getD .skip
def acA : List (Nat × Nf) := []
def aco : List (Nat × List Nat) := []
def acI : Nat → Ann
  | 0 => ⟨[2, 3], [2, 3], [], [], [2, 3]⟩
  | 1 => ⟨[4], [], [], [], []⟩
  | _ => ⟨[], [], [], [], []⟩
noncomputable abbrev ad6 : Cx := ⟨Tryd.prog, ⟨id, acA, aco⟩, acI⟩
theorem aeJ {args : List PV} {r : PV} (ha : args.length = 2) (h : awp ad6 aem (zR Tryd.prog [.tmp 4] r []) (zP args [])) : PC Tryd.prog 15 args r :=
  zI (X := ad6) mixed Tryd.func15 (c := aem) (by kernel_rfl) (by kernel_rfl) (rs := [.tmp 4]) (by kernel_rfl) (by kernel_rfl) (by rw [ha]; decide) h
noncomputable def aed : Code := (Tryd.f45.body).getD .skip
def acG : List (Nat × Nf) := []
def acd : List (Nat × List Nat) := []
def abr : Nat → Ann
  | 0 => ⟨[1, 2, 3], [3], [], [], [3]⟩
  | 1 => ⟨[8, 9], [8], [], [], [8]⟩
  | 2 => ⟨[8, 9, 23], [8], [], [], [8]⟩
  | 3 => ⟨[6, 7], [], [.nrm 6 [some 5]], [], []⟩
  | 4 => ⟨[8, 10], [8], [], [], [8]⟩
  | 5 => ⟨[9, 14], [], [], [], []⟩
  | 6 => ⟨[6, 7], [], [], [], []⟩
  | _ => ⟨[], [], [], [], []⟩
noncomputable abbrev aes : Cx := ⟨Tryd.prog, ⟨id, acG, acd⟩, abr⟩
theorem aeY {args : List PV} {r : PV} (ha : args.length = 3) (h : awp aes aed (zR Tryd.prog [.tmp 6, .tmp 7] r []) (zP args [])) : PC Tryd.prog 45 args r :=
  zI (X := aes) mixed Tryd.func45 (c := aed) (by kernel_rfl) (by kernel_rfl) (rs := [.tmp 6, .tmp 7]) (by kernel_rfl) (by kernel_rfl) (by rw [ha]; decide) h
noncomputable def aeh : Code := (Tryd.f16.body).getD .skip
def acV : List (Nat × Nf) := [(68, [none, none, none, some 5, none, none]), (98, [none, none, none, some 5, none, none])]
def abl : List (Nat × List Nat) := []
def ab6 : Nat → Ann
  | 0 => ⟨[2, 3], [2, 3], [], [], [2, 3]⟩
  | 1 => ⟨[2, 3, 7], [2, 3], [], [], [2, 3]⟩
  | 2 => ⟨[2, 3, 7, 27], [2, 3], [], [], [2, 3]⟩
  | 3 => ⟨[4, 5], [], [.nrm 4 [some 6]], [], []⟩
  | 4 => ⟨[2, 3, 30], [2, 3], [], [], [2, 3]⟩
  | 5 => ⟨[2, 3, 30, 31], [2, 3], [], [], [2, 3]⟩
  | 6 => ⟨[3, 8, 9], [3], [], [], [3]⟩
  | 7 => ⟨[4, 5], [52], [], [.ren 52 4], [4, 52]⟩
  | 8 => ⟨[2, 3, 54], [2, 3], [], [], [2, 3]⟩
  | 9 => ⟨[3, 11, 12], [3], [], [], [3]⟩
  | 10 => ⟨[4, 5], [69], [], [.ren 69 4], [4, 69]⟩
  | 11 => ⟨[2, 3, 13], [2, 3], [], [], [2, 3]⟩
  | 12 => ⟨[3, 13, 15, 16], [3], [], [], [3]⟩
  | 13 => ⟨[3, 13, 15, 16, 17], [3, 17], [.thaw 17 17 6], [], [3, 17]⟩
  | 14 => ⟨[3, 13, 16, 17, 81, 82, 83], [3, 17], [], [], [3, 17]⟩
  | 15 => ⟨[3, 13, 16, 17, 81, 82, 83, 84], [3, 17], [], [], [3, 17]⟩
  | 16 => ⟨[3, 13, 16, 17, 19, 81, 82, 83], [3, 17, 19], [], [], [3, 17, 19]⟩
  | 17 => ⟨[3, 13, 16, 17, 81, 82, 83], [3, 17], [], [], [3, 17]⟩
  | 18 => ⟨[3, 13, 16, 17, 81, 82, 83], [3, 17], [], [], [3, 17]⟩
  | 19 => ⟨[4, 5], [17], [], [.ren 17 4], [4, 17]⟩
  | _ => ⟨[], [], [], [], []⟩
noncomputable abbrev aex : Cx := ⟨Tryd.prog, ⟨id, acV, abl⟩, ab6⟩
theorem aeG {args : List PV} {r : PV} (ha : args.length = 2) (h : awp aex aeh (zR Tryd.prog [.tmp 4, .tmp 5] r []) (zP args [])) : PC Tryd.prog 16 args r :=
  zI (X := aex) mixed Tryd.func16 (c := aeh) (by kernel_rfl) (by kernel_rfl) (rs := [.tmp 4, .tmp 5]) (by kernel_rfl) (by kernel_rfl) (by rw [ha]; decide) h
noncomputable def Ws : Code := (Tryd.f24.body).getD .skip
def QA : List (Nat × Nf) := [(4, [none, none, some 1, some 2, some 5]), (6, [none, none, some 1, some 2, some 5]), (8, [none, none, some 1, some 2, some 5]), (11, [none, none, none, some 5, none, none])]
def QD : List (Nat × List Nat) := []
def QC : Nat → Ann
  | 0 => ⟨[], [], [], [], []⟩
  | 1 => ⟨[1], [1], [], [], [1]⟩
  | 2 => ⟨[2, 3], [2], [], [], [2]⟩
  | 3 => ⟨[0], [], [], [], []⟩
  | _ => ⟨[], [], [], [], []⟩
noncomputable abbrev Wl : Cx := ⟨Tryd.prog, ⟨id, QA, QD⟩, QC⟩
theorem VX {args : List PV} {r : PV} (ha : args.length = 0) (h : awp Wl Ws (zR Tryd.prog [.tmp 0] r []) (zP args [])) : PC Tryd.prog 24 args r :=
  zI (X := Wl) mixed Tryd.func24 (c := Ws) (by kernel_rfl) (by kernel_rfl) (rs := [.tmp 0]) (by kernel_rfl) (by kernel_rfl) (by rw [ha]; decide) h
noncomputable def WO : Code := (Tryd.f26.body).getD .skip
def Ww : List (Nat × Nf) := []
def Wy : List (Nat × List Nat) := []
def Wp : Nat → Ann
  | 0 => ⟨[0, 1], [], [], [], []⟩
  | 1 => ⟨[0, 1, 6], [], [], [], []⟩
  | 2 => ⟨[0, 1], [], [], [], []⟩
  | 3 => ⟨[4], [], [], [], []⟩
  | _ => ⟨[], [], [], [], []⟩
noncomputable abbrev WV : Cx := ⟨Tryd.prog, ⟨id, Ww, Wy⟩, Wp⟩
theorem V9 {args : List PV} {r : PV} (ha : args.length = 2) (h : awp WV WO (zR Tryd.prog [.tmp 4] r []) (zP args [])) : PC Tryd.prog 26 args r :=
  zI (X := WV) mixed Tryd.func26 (c := WO) (by kernel_rfl) (by kernel_rfl) (rs := [.tmp 4]) (by kernel_rfl) (by kernel_rfl) (by rw [ha]; decide) h
noncomputable def WN : Code := (Tryd.f38.body).getD .skip
def Wv : List (Nat × Nf) := []
def Wi : List (Nat × List Nat) := []
def Wt : Nat → Ann
  | 0 => ⟨[1], [1], [], [], [1]⟩
  | 1 => ⟨[1, 7], [1], [], [], [1]⟩
  | 2 => ⟨[2], [], [], [], []⟩
  | 3 => ⟨[1, 3], [1], [], [], [1]⟩
  | 4 => ⟨[1, 3, 4], [1], [], [], [1]⟩
  | 5 => ⟨[1, 3, 4, 12], [1], [], [], [1]⟩
  | 6 => ⟨[1, 3, 4], [1], [], [], [1]⟩
  | 7 => ⟨[1, 3, 4], [1], [], [], [1]⟩
  | 8 => ⟨[2], [], [], [], []⟩
  | _ => ⟨[], [], [], [], []⟩
noncomputable abbrev WK : Cx := ⟨Tryd.prog, ⟨id, Wv, Wi⟩, Wt⟩
theorem Jp {args : List PV} {r : PV} (ha : args.length = 1) (h : awp WK WN (zR Tryd.prog [.tmp 2] r []) (zP args [])) : PC Tryd.prog 38 args r :=
  zI (X := WK) mixed Tryd.func38 (c := WN) (by kernel_rfl) (by kernel_rfl) (rs := [.tmp 2]) (by kernel_rfl) (by kernel_rfl) (by rw [ha]; decide) h
noncomputable def ZN : Code := (Tryd.f95.body).getD .skip
def Ze : List (Nat × Nf) := []
def Zc : List (Nat × List Nat) := []
def y7 : Nat → Ann
  | 0 => ⟨[0, 1], [], [], [], []⟩
  | 1 => ⟨[0, 1, 10], [], [], [], []⟩
  | 2 => ⟨[4], [], [], [], []⟩
  | 3 => ⟨[0, 1, 5], [], [], [], []⟩
  | 4 => ⟨[0, 1, 5, 14], [], [], [], []⟩
  | 5 => ⟨[0, 1, 5], [], [], [], []⟩
  | 6 => ⟨[0, 1, 5, 25], [], [], [], []⟩
  | 7 => ⟨[4], [], [], [], []⟩
  | 8 => ⟨[4], [], [], [], []⟩
  | _ => ⟨[], [], [], [], []⟩
noncomputable abbrev ZG : Cx := ⟨Tryd.prog, ⟨id, Ze, Zc⟩, y7⟩
theorem Kr {args : List PV} {r : PV} (ha : args.length = 2) (h : awp ZG ZN (zR Tryd.prog [.tmp 4] r []) (zP args [])) : PC Tryd.prog 95 args r :=
  zI (X := ZG) mixed Tryd.func95 (c := ZN) (by kernel_rfl) (by kernel_rfl) (rs := [.tmp 4]) (by kernel_rfl) (by kernel_rfl) (by rw [ha]; decide) h
noncomputable def KX : Code := (Tryd.f65.body).getD .skip
def WT : List (Nat × Nf) := []
def WS : List (Nat × List Nat) := [(65, [3]), (66, [3, 62]), (67, [5]), (69, [62, 68])]
def Ka : Nat → Ann
  | 0 => ⟨[0], [], [], [], []⟩
  | 1 => ⟨[0, 3], [3], [.thaw 3 3 5], [], [3]⟩
  | 2 => ⟨[0, 3, 4], [3], [], [], [3]⟩
  | 3 => ⟨[0, 3, 4, 10], [3], [], [], [3]⟩
  | 4 => ⟨[0, 3, 4], [3], [], [], [3]⟩
  | 5 => ⟨[0, 3, 4, 5], [3, 5], [], [], [3, 5]⟩
  | 6 => ⟨[0, 3, 4, 5, 6], [3, 5], [], [], [3, 5]⟩
  | 7 => ⟨[0, 3, 4, 5, 6, 27], [3, 5], [], [], [3, 5]⟩
  | 8 => ⟨[0, 3, 4, 5, 6, 52], [3, 5], [], [], [3, 5]⟩
  | 9 => ⟨[0, 3, 4, 5, 6], [3, 5], [], [], [3, 5]⟩
  | 10 => ⟨[0, 3, 4], [62], [], [.ren 62 3], [3, 62]⟩
  | 11 => ⟨[0, 3, 4], [3], [], [], [3]⟩
  | 12 => ⟨[2], [3], [], [.ren 3 2], [2, 3]⟩
  | _ => ⟨[], [], [], [], []⟩
noncomputable abbrev Va : Cx := ⟨Tryd.prog, ⟨id, WT, WS⟩, Ka⟩
theorem J5 {args : List PV} {r : PV} (ha : args.length = 1) (h : awp Va KX (zR Tryd.prog [.tmp 2] r []) (zP args [])) : PC Tryd.prog 65 args r :=
  zI (X := Va) mixed Tryd.func65 (c := KX) (by kernel_rfl) (by kernel_rfl) (rs := [.tmp 2]) (by kernel_rfl) (by kernel_rfl) (by rw [ha]; decide) h
noncomputable def WR : Code := (Tryd.f56.body).getD .skip
def Wz : List (Nat × Nf) := [(29, [none, none, some 1, some 2, none])]
def Wm : List (Nat × List Nat) := []
def Wn : Nat → Ann
  | 0 => ⟨[1, 2, 4], [2, 4], [.nrm 4 [none, none, some 1, some 2, some 5]], [], [2, 4]⟩
  | 1 => ⟨[1, 2, 4, 5], [2, 4, 8], [], [.ren 8 5], [2, 4, 5, 8]⟩
  | 2 => ⟨[1, 2, 4, 5, 6], [2, 4, 5, 9], [], [.ren 9 6], [2, 4, 5, 6, 9]⟩
  | 3 => ⟨[1, 4, 7], [4, 25], [], [.ren 25 7], [4, 7, 25]⟩
  | 4 => ⟨[4], [4], [], [], [4]⟩
  | _ => ⟨[], [], [], [], []⟩
noncomputable abbrev WJ : Cx := ⟨Tryd.prog, ⟨id, Wz, Wm⟩, Wn⟩
theorem Jt {args : List PV} {r : PV} (ha : args.length = 2) (h : awp WJ WR (zR Tryd.prog [.cell 4 28] r []) (zP args [])) : PC Tryd.prog 56 args r :=
  zI (X := WJ) mixed Tryd.func56 (c := WR) (by kernel_rfl) (by kernel_rfl) (rs := [.cell 4 28]) (by kernel_rfl) (by kernel_rfl) (by rw [ha]; decide) h
noncomputable def K4 : Code := (Tryd.f25.body).getD .skip
def WI : List (Nat × Nf) := [(14, [none, none, some 1, some 2, none]), (34, [none, none, none, some 2, some 5]), (62, [none, none, some 1, none, none]), (93, [none, none, some 1, some 2, none]), (171, [none, none, none, none, some 5]), (173, [none, none, some 1, some 2, some 5]), (177, [none, none, none, none, some 5])]
def Kb : List (Nat × List Nat) := [(115, [12]), (116, [12]), (117, [114]), (118, [11]), (120, [114, 119]), (121, [12]), (123, [4]), (124, [4]), (126, [332]), (127, [122, 332]), (128, [12]), (130, [122, 129]), (131, [4]), (152, [11]), (153, [11]), (154, [4]), (155, [4]), (157, [332]), (158, [332]), (160, [159, 381]), (161, [11]), (500121, [12, 114]), (500131, [4, 122])]
def WX : Nat → Ann
  | 0 => ⟨[0, 2], [2], [.nrm 2 [none, none, some 1, some 2, some 5]], [], [2]⟩
  | 1 => ⟨[0, 2, 3], [2, 13], [], [.ren 13 3], [2, 3, 13]⟩
  | 2 => ⟨[0, 2, 3, 4], [2, 3, 4, 332], [.VA 4 4 332 5], [], [2, 3, 4, 332]⟩
  | 3 => ⟨[0, 2, 3, 4, 5], [2, 3, 4, 5, 332], [.thaw 5 5 5], [], [2, 3, 4, 5, 332]⟩
  | 4 => ⟨[0, 2, 3, 4, 5, 6], [2, 3, 4, 5, 332], [], [], [2, 3, 4, 5, 332]⟩
  | 5 => ⟨[0, 2, 3, 4, 5, 6, 22], [2, 3, 4, 5, 332], [], [], [2, 3, 4, 5, 332]⟩
  | 6 => ⟨[0, 2, 3, 4, 5, 6], [2, 3, 4, 5, 332], [], [], [2, 3, 4, 5, 332]⟩
  | 7 => ⟨[0, 2, 3, 4, 5, 6, 7], [2, 3, 4, 5, 7, 332, 351], [.VA 7 2 351 1], [], [2, 3, 4, 5, 7, 332, 351]⟩
  | 8 => ⟨[0, 2, 3, 4, 5, 6, 7, 42], [2, 3, 4, 5, 7, 332, 351], [], [], [2, 3, 4, 5, 7, 332, 351]⟩
  | 9 => ⟨[0, 2, 3, 4, 5, 6, 7], [2, 3, 4, 5, 7, 332, 351], [], [], [2, 3, 4, 5, 7, 332, 351]⟩
  | 10 => ⟨[0, 2, 3, 4, 5, 6, 7, 55], [2, 3, 4, 5, 7, 332, 351], [], [], [2, 3, 4, 5, 7, 332, 351]⟩
  | 11 => ⟨[0, 2, 3, 4, 5, 6, 7], [2, 3, 4, 5, 7, 332, 351], [], [], [2, 3, 4, 5, 7, 332, 351]⟩
  | 12 => ⟨[0, 2, 3, 4, 5, 6], [2, 3, 4, 5, 332], [], [], [2, 3, 4, 5, 332]⟩
  | 13 => ⟨[0, 2, 3, 4, 5, 6, 8], [2, 3, 4, 5, 332], [], [], [2, 3, 4, 5, 332]⟩
  | 14 => ⟨[0, 2, 3, 4, 5, 6, 8, 72], [2, 3, 4, 5, 332], [], [], [2, 3, 4, 5, 332]⟩
  | 15 => ⟨[0, 2, 3, 4, 6, 8, 9], [2, 3, 4, 9, 332], [], [], [2, 3, 4, 9, 332]⟩
  | 16 => ⟨[0, 2, 3, 4, 5, 6, 8, 9], [2, 3, 4, 5, 9, 332], [.thaw 5 5 5], [], [2, 3, 4, 5, 9, 332]⟩
  | 17 => ⟨[0, 2, 3, 4, 5, 6, 8, 9, 10], [2, 3, 4, 5, 9, 332], [], [], [2, 3, 4, 5, 9, 332]⟩
  | 18 => ⟨[0, 2, 3, 4, 5, 6, 8, 9, 10, 84], [2, 3, 4, 5, 9, 332], [], [], [2, 3, 4, 5, 9, 332]⟩
  | 19 => ⟨[0, 2, 3, 4, 5, 6], [2, 3, 4, 5, 332], [], [], [2, 3, 4, 5, 332]⟩
  | 20 => ⟨[0, 2, 3, 4, 5, 6, 8, 10, 11], [2, 3, 4, 5, 11, 92, 332], [], [.ren 92 381], [2, 3, 4, 5, 11, 92, 332, 381]⟩
  | 21 => ⟨[0, 2, 3, 4, 5, 6, 10, 11, 108], [2, 3, 4, 5, 11, 332, 381], [], [], [2, 3, 4, 5, 11, 332, 381]⟩
  | 22 => ⟨[0, 2, 3, 4, 5, 6, 10, 11, 12], [2, 3, 4, 5, 11, 12, 332, 381], [], [], [2, 3, 4, 5, 11, 12, 332, 381]⟩
  | 23 => ⟨[0, 2, 3, 4, 5, 6, 10, 12], [2, 3, 4, 5, 12, 332], [.nrm 12 [none, none, none, none, some 5]], [], [2, 3, 4, 5, 12, 332]⟩
  | 24 => ⟨[0, 2, 3, 4, 5, 6], [2, 3, 4, 5, 122], [], [.ren 122 332], [2, 3, 4, 5, 122, 332]⟩
  | 25 => ⟨[0, 2, 3, 4, 5, 6, 10, 11, 151], [2, 3, 4, 5, 11, 332, 381], [], [], [2, 3, 4, 5, 11, 332, 381]⟩
  | 26 => ⟨[0, 2, 3, 4, 5, 6, 10, 11], [2, 3, 4, 5, 11, 332, 381], [], [], [2, 3, 4, 5, 11, 332, 381]⟩
  | 27 => ⟨[0, 2, 3, 4, 5, 6, 11], [2, 3, 4, 5, 11, 162, 381], [], [.ren 162 332], [2, 3, 4, 5, 11, 162, 332, 381]⟩
  | 28 => ⟨[0, 2, 3, 4, 5, 6], [2, 3, 4, 5, 332], [], [], [2, 3, 4, 5, 332]⟩
  | 29 => ⟨[2], [2], [], [], [2]⟩
  | _ => ⟨[], [], [], [], []⟩
noncomputable abbrev K8 : Cx := ⟨Tryd.prog, ⟨id, WI, Kb⟩, WX⟩
theorem JZ {args : List PV} {r : PV} (ha : args.length = 1) (h : awp K8 K4 (zR Tryd.prog [.cell 2 28] r []) (zP args [])) : PC Tryd.prog 25 args r :=
  zI (X := K8) mixed Tryd.func25 (c := K4) (by kernel_rfl) (by kernel_rfl) (rs := [.cell 2 28]) (by kernel_rfl) (by kernel_rfl) (by rw [ha]; decide) h
noncomputable def jT : Code := (Tryd.f53.body).getD .skip
def jG : List (Nat × Nf) := []
def jL : List (Nat × List Nat) := []
def jF : Nat → Ann
  | 0 => ⟨[0, 1], [1000, 1001], [], [], [1000, 1001]⟩
  | 1 => ⟨[0, 1], [1000, 1001], [], [], [1000, 1001]⟩
  | 2 => ⟨[1], [1000, 1001], [], [], [1000, 1001]⟩
  | 3 => ⟨[4, 5], [1000, 1001], [], [], [1000, 1001]⟩
  | _ => ⟨[], [], [], [], []⟩
noncomputable abbrev jV : Cx := ⟨Tryd.prog, ⟨id, jG, jL⟩, jF⟩
theorem Za {args : List PV} {es es' : List Ent} {r : PV} (ha : args.length = 2) (hl : es'.length = es.length) (he : (es'.all fun e => e.qQ es.length) = true) (h : awp jV jT (zR Tryd.prog [.tmp 4, .tmp 5] r es') (zP args es)) : BC Tryd.prog 53 args es r es' :=
  yu (X := jV) mixed Tryd.func53 (c := jT) (by kernel_rfl) (by kernel_rfl) (rs := [.tmp 4, .tmp 5]) (by kernel_rfl) (by kernel_rfl) (by rw [ha]; decide) hl (fun e h => List.all_eq_true.1 he e h) h
noncomputable def Jl : Code := (Tryd.f57.body).getD .skip
def Vy : List (Nat × Nf) := []
def VE : List (Nat × List Nat) := []
def Vw : Nat → Ann
  | 0 => ⟨[1, 2, 3], [3, 1000, 1001, 1002], [], [], [3, 1000, 1001, 1002]⟩
  | 1 => ⟨[1, 2, 3, 7], [3, 1000, 1001, 1002], [], [], [3, 1000, 1001, 1002]⟩
  | 2 => ⟨[], [1000, 1001, 1002], [], [], [1000, 1001, 1002]⟩
  | 3 => ⟨[2, 12, 13, 14], [1000, 1001, 1002], [], [], [1000, 1001, 1002]⟩
  | 4 => ⟨[2, 12, 13, 14, 15], [1000, 1001, 1002], [], [], [1000, 1001, 1002]⟩
  | 5 => ⟨[2, 5, 12, 13, 14], [5, 1000, 1001, 1002], [], [], [5, 1000, 1001, 1002]⟩
  | 6 => ⟨[2, 12, 13, 14], [1000, 1001, 1002], [], [], [1000, 1001, 1002]⟩
  | 7 => ⟨[2, 12, 13, 14], [1000, 1001, 1002], [], [], [1000, 1001, 1002]⟩
  | _ => ⟨[], [], [], [], []⟩
noncomputable abbrev Ja : Cx := ⟨Tryd.prog, ⟨id, Vy, VE⟩, Vw⟩
theorem Yp {args : List PV} {es es' : List Ent} {r : PV} (ha : args.length = 3) (hl : es'.length = es.length) (he : (es'.all fun e => e.qQ es.length) = true) (h : awp Ja Jl (zR Tryd.prog [] r es') (zP args es)) : BC Tryd.prog 57 args es r es' :=
  yu (X := Ja) mixed Tryd.func57 (c := Jl) (by kernel_rfl) (by kernel_rfl) (rs := []) (by kernel_rfl) (by kernel_rfl) (by rw [ha]; decide) hl (fun e h => List.all_eq_true.1 he e h) h
noncomputable def abQ : Code := (Tryd.f28.body).getD .skip
def aaI : List (Nat × Nf) := []
def aaO : List (Nat × List Nat) := []
def aaF : Nat → Ann
  | 0 => ⟨[1], [1], [], [], [1]⟩
  | 1 => ⟨[1, 3], [1, 3, 322], [.self 3 0, .XK 3 1 322 5], [], [1, 3, 322]⟩
  | 2 => ⟨[1, 3, 4], [1, 3, 4, 322], [], [], [1, 3, 4, 322]⟩
  | 3 => ⟨[1, 3, 4], [1, 3, 4, 322], [], [], [1, 3, 4, 322]⟩
  | 4 => ⟨[3], [3, 322], [], [], [3, 322]⟩
  | 5 => ⟨[2], [], [], [], []⟩
  | _ => ⟨[], [], [], [], []⟩
noncomputable abbrev abT : Cx := ⟨Tryd.prog, ⟨id, aaI, aaO⟩, aaF⟩
theorem adF {args : List PV} {r : PV} (ha : args.length = 1) (h : awp abT abQ (zR Tryd.prog [.tmp 2] r []) (zP args [])) : PC Tryd.prog 28 args r :=
  zI (X := abT) mixed Tryd.func28 (c := abQ) (by kernel_rfl) (by kernel_rfl) (rs := [.tmp 2]) (by kernel_rfl) (by kernel_rfl) (by rw [ha]; decide) h
noncomputable def Zn : Code := (Tryd.f9.body).getD .skip
def yI : List (Nat × Nf) := [(61, [none, none, none, some 5, none, none]), (63, [none, none, none, some 5, none, none])]
def yK : List (Nat × List Nat) := []
def yH : Nat → Ann
  | 0 => ⟨[0, 1, 2, 3], [], [], [], []⟩
  | 1 => ⟨[0, 1, 2, 3, 9], [], [], [], []⟩
  | 2 => ⟨[0, 1, 2, 3, 9, 43], [], [], [], []⟩
  | 3 => ⟨[8], [], [], [], []⟩
  | 4 => ⟨[1, 2, 3, 10], [10], [], [], [10]⟩
  | 5 => ⟨[2, 3, 10, 11], [10], [], [], [10]⟩
  | 6 => ⟨[3, 10, 11, 12], [10], [], [], [10]⟩
  | 7 => ⟨[10, 11, 12, 13], [10, 13], [], [], [10, 13]⟩
  | 8 => ⟨[10, 11, 13, 14], [10, 13, 14], [], [], [10, 13, 14]⟩
  | 9 => ⟨[10, 11, 13, 14, 15, 16], [10, 13, 14, 15], [], [], [10, 13, 14, 15]⟩
  | 10 => ⟨[10, 11, 13, 14, 15, 16, 17, 18], [10, 13, 14, 15], [], [], [10, 13, 14, 15]⟩
  | 11 => ⟨[10, 11, 13, 14, 15, 16, 17, 18, 77], [10, 13, 14, 15], [], [], [10, 13, 14, 15]⟩
  | 12 => ⟨[8], [], [], [], []⟩
  | 13 => ⟨[10, 11, 13, 14, 15, 17, 19, 20], [10, 13, 14, 15, 19], [], [], [10, 13, 14, 15, 19]⟩
  | 14 => ⟨[10, 11, 13, 14, 15, 17, 19, 20, 21, 22], [10, 13, 14, 15, 19, 21], [], [], [10, 13, 14, 15, 19, 21]⟩
  | 15 => ⟨[10, 13, 14, 130], [10, 13, 14], [], [], [10, 13, 14]⟩
  | 16 => ⟨[8], [], [], [], []⟩
  | 17 => ⟨[10, 13, 14, 24], [10, 13, 14], [], [], [10, 13, 14]⟩
  | 18 => ⟨[10, 13, 14, 138], [10, 13, 14], [], [], [10, 13, 14]⟩
  | 19 => ⟨[8], [], [], [], []⟩
  | 20 => ⟨[10, 13, 14, 25, 26], [10, 13, 14, 25], [], [], [10, 13, 14, 25]⟩
  | 21 => ⟨[25, 26, 27, 28], [25, 27], [], [], [25, 27]⟩
  | 22 => ⟨[8], [], [], [], []⟩
  | _ => ⟨[], [], [], [], []⟩
noncomputable abbrev Zo : Cx := ⟨Tryd.prog, ⟨id, yI, yK⟩, yH⟩
theorem WC {args : List PV} {r : PV} (ha : args.length = 4) (h : awp Zo Zn (zR Tryd.prog [.tmp 8] r []) (zP args [])) : PC Tryd.prog 9 args r :=
  zI (X := Zo) mixed Tryd.func9 (c := Zn) (by kernel_rfl) (by kernel_rfl) (rs := [.tmp 8]) (by kernel_rfl) (by kernel_rfl) (by rw [ha]; decide) h
attribute [go_sem] XU Xp XN jB jy jv aaG aao Y2 aci abB abp Qp Qu Z4 aap YX aaJ abN abI abv acD abG acH aaq aaD aaa Xw XZ Yq aaz YR Y6 aad aar YY aaP Y0 aah Zj yT Zg WM W9 WZ Yl Yj XV Jh Jn Jy Yn Xy Yo J7 Xc J8 j6 jX xc Zk yZ yY Y9 Y1 YZ adW aeq aec Qe Qx Qr Zl Zi yV Qf ZX Qd ab8 acO abW Qq Z7 Z6 Y3 aag Y7 YQ aac YV KP Vb KN WQ WL WY XT XF Yt X5 XA Xz XP Yf X9 yL yJ yG ab2 abF acR Y8 aaC aaL aeB aey aep Zf yX Zh vG vD vE acI acA aco abr acG acd ab6 acV abl QC QA QD Wp Ww Wy Wt Wv Wi y7 Ze Zc Ka WT WS Wn Wz Wm WX WI Kb jF jG jL Vw Vy VE aaF aaI aaO yH yI yK ty3 ty4 ty5 ty9 avs avh avm avC auT avl avj avz avq avo avp avx avr avt avi avn auv auQ ava auJ auO avg auf zu.xK zf.xK za.xK zz.xK qC.xK qU.xK zn.xK jJ.xK pvL
theorem pvE : (∀ x : zu, x.pv = .agg [.int .i64 x.Text, .int .i64 x.Marks, .int .i64 x.zt, .int .i64 x.In]) ∧ (∀ x : zf, x.pv = .agg [.str x.Name, .str x.Value]) ∧ (∀ x : za, x.pv = .agg [.str x.Kind, .str x.Text, .list 1 (x.Marks.map PV.str), .list 2 (x.zt.map zf.pv), .list 5 (x.Kids.map za.pv)]) ∧ (∀ x : zz, x.pv = .agg [.int .u8 x.Kind, .int .i64 x.From, .int .i64 x.To, .list 5 (x.wC.map za.pv), .str x.Name, .str x.Value]) ∧ (∀ x : qC, x.pv = .agg [.list 1 (x.path.map (PV.int .i64)), .str x.in_.Kind, .str x.in_.Text, .list 1 (x.in_.Marks.map PV.str), .list 2 (x.in_.zt.map zf.pv), .list 5 (x.in_.Kids.map za.pv), .int .i64 x.from_, .int .i64 x.to_]) ∧ (∀ x : qU, x.pv = .agg [.list 1 (x.Path.map (PV.int .i64)), .int .i64 x.Index, .int .i64 x.Offset]) ∧ (∀ x : zn, x.pv = .agg [.int .i64 x.Pos, .int .i64 x.Old, .int .i64 x.New]) ∧ (∀ x : jJ, x.pv = .agg [.int .u8 x.s.Kind, .int .i64 x.s.From, .int .i64 x.s.To, .list 5 (x.s.wC.map za.pv), .str x.s.Name, .str x.s.Value, .list 3 (x.changed.map zn.pv)]) ∧ (∀ (α : Type) (sz : Nat) (f : α → PV) (l : List α), pvL sz f l = .list sz (l.map f)) :=
  ⟨zu.xK, zf.xK, za.xK, zz.xK, qC.xK, qU.xK, zn.xK, jJ.xK, fun _ _ _ _ => rfl⟩
theorem lsE {α β : Type} (f : α → β) : (∀ a l, List.map f (a :: l) = f a :: List.map f l) ∧ List.map f [] = [] ∧ (∀ a b, List.map f (a ++ b) = List.map f a ++ List.map f b) :=
  ⟨fun _ _ => rfl, rfl, fun a b => List.map_append⟩
end Go.Proofs.YtclohbgnaopjfaaDoor
