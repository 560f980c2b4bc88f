/- Texts of the proof of diffMakesCard -/
import Derived.Test.YtclohbgnaopjfaaDoorAgT
import Derived.Test.YtclohbgnaopjfaaDoorAwT
namespace Go.Proofs.YtclohbgnaopjfaaDoor
set_option linter.unusedSimpArgs false
set_option linter.unusedVariables false
open Go
set_option maxRecDepth 100000
noncomputable def abU : Code := (Tryd.f58.body).getD .skip
def YV : List (Nat × Nf) := []
def aag : List (Nat × List Nat) := []
def aat : Nat → Ann
 | 0 => ⟨[1], [1], [], [], [1]⟩
 | 1 => ⟨[2], [], [], [], []⟩
 | _ => ⟨[], [], [], [], []⟩
noncomputable abbrev abJ : Cx := ⟨Tryd.prog, ⟨id, YV, aag⟩, aat⟩
theorem adt {args : List PV} {r : PV} (ha : args.length = 1) (h : awp abJ abU (zW Tryd.prog [.tmp 2] r []) (zS args [])) : PC Tryd.prog 58 args r :=
 zL (X := abJ) mixed Tryd.func58 (c := abU) (by kernel_rfl) (by kernel_rfl) (rs := [.tmp 2]) (by kernel_rfl) (by kernel_rfl) (by rw [ha]; decide) h
noncomputable def xE : Code := (Tryd.f63.body).getD .skip
def xc : List (Nat × Nf) := []
def jY : List (Nat × List Nat) := []
def jZ : Nat → Ann
 | 0 => ⟨[0, 2], [], [], [], []⟩
 | 1 => ⟨[2, 4], [4], [], [], [4]⟩
 | 2 => ⟨[2, 4, 6], [4], [], [], [4]⟩
 | 3 => ⟨[2, 4], [4], [], [], [4]⟩
 | 4 => ⟨[2], [], [], [], []⟩
 | _ => ⟨[], [], [], [], []⟩
noncomputable abbrev xA : Cx := ⟨Tryd.prog, ⟨id, xc, jY⟩, jZ⟩
theorem Zw {args : List PV} {r : PV} (ha : args.length = 1) (h : awp xA xE (zW Tryd.prog [.tmp 2] r []) (zS args [])) : PC Tryd.prog 63 args r :=
 zL (X := xA) mixed Tryd.func63 (c := xE) (by kernel_rfl) (by kernel_rfl) (rs := [.tmp 2]) (by kernel_rfl) (by kernel_rfl) (by rw [ha]; decide) h
noncomputable def afP : Code := (Tryd.f34.body).getD .skip
def acN : List (Nat × Nf) := []
def adh : List (Nat × List Nat) := []
def acY : Nat → Ann
 | 0 => ⟨[1], [1], [], [], [1]⟩
 | 1 => ⟨[1, 4], [1], [], [], [1]⟩
 | 2 => ⟨[2], [], [], [], []⟩
 | 3 => ⟨[2], [], [], [], []⟩
 | _ => ⟨[], [], [], [], []⟩
noncomputable abbrev afU : Cx := ⟨Tryd.prog, ⟨id, acN, adh⟩, acY⟩
theorem agh {args : List PV} {r : PV} (ha : args.length = 1) (h : awp afU afP (zW Tryd.prog [.tmp 2] r []) (zS args [])) : PC Tryd.prog 34 args r :=
 zL (X := afU) mixed Tryd.func34 (c := afP) (by kernel_rfl) (by kernel_rfl) (rs := [.tmp 2]) (by kernel_rfl) (by kernel_rfl) (by rw [ha]; decide) h
noncomputable def adm : Code := (Tryd.f27.body).getD .skip
def abe : List (Nat × Nf) := []
def abV : List (Nat × List Nat) := []
def ab2 : Nat → Ann
 | 0 => ⟨[0], [], [], [], []⟩
 | 1 => ⟨[0, 3], [], [], [], []⟩
 | 2 => ⟨[3, 6, 7, 8], [], [], [], []⟩
 | 3 => ⟨[3, 6, 7, 8, 9], [], [], [], []⟩
 | 4 => ⟨[3, 5, 6, 7, 8], [5], [], [], [5]⟩
 | 5 => ⟨[3, 6, 7, 8], [], [], [], []⟩
 | 6 => ⟨[3, 6, 7, 8], [], [], [], []⟩
 | 7 => ⟨[2], [], [], [], []⟩
 | _ => ⟨[], [], [], [], []⟩
noncomputable abbrev adR : Cx := ⟨Tryd.prog, ⟨id, abe, abV⟩, ab2⟩
theorem afq {args : List PV} {r : PV} (ha : args.length = 1) (h : awp adR adm (zW Tryd.prog [.tmp 2] r []) (zS args [])) : PC Tryd.prog 27 args r :=
 zL (X := adR) mixed Tryd.func27 (c := adm) (by kernel_rfl) (by kernel_rfl) (rs := [.tmp 2]) (by kernel_rfl) (by kernel_rfl) (by rw [ha]; decide) h
noncomputable def Wv : Code := (Tryd.f42.body).getD .skip
def QM : List (Nat × Nf) := []
def Q8 : List (Nat × List Nat) := []
def QR : Nat → Ann
 | 0 => ⟨[0, 1], [], [], [], []⟩
 | 1 => ⟨[0, 1, 10], [], [], [], []⟩
 | 2 => ⟨[4], [], [], [], []⟩
 | 3 => ⟨[0, 1, 12, 13], [], [], [], []⟩
 | 4 => ⟨[0, 1, 12, 13, 14], [], [], [], []⟩
 | 5 => ⟨[0, 1, 5, 12, 13], [], [], [], []⟩
 | 6 => ⟨[0, 1, 12, 13, 24], [], [], [], []⟩
 | 7 => ⟨[4], [], [], [], []⟩
 | 8 => ⟨[0, 1, 12, 13], [], [], [], []⟩
 | 9 => ⟨[4], [], [], [], []⟩
 | _ => ⟨[], [], [], [], []⟩
noncomputable abbrev WK : Cx := ⟨Tryd.prog, ⟨id, QM, Q8⟩, QR⟩
theorem Jm {args : List PV} {r : PV} (ha : args.length = 2) (h : awp WK Wv (zW Tryd.prog [.tmp 4] r []) (zS args [])) : PC Tryd.prog 42 args r :=
 zL (X := WK) mixed Tryd.func42 (c := Wv) (by kernel_rfl) (by kernel_rfl) (rs := [.tmp 4]) (by kernel_rfl) (by kernel_rfl) (by rw [ha]; decide) h
noncomputable def aek : Code := (Tryd.f104.body).getD .skip
def abK : List (Nat × Nf) := []
def abr : List (Nat × List Nat) := []
def abj : Nat → Ann
 | 0 => ⟨[2, 3], [2, 3], [], [], [2, 3]⟩
 | 1 => ⟨[4], [], [], [], []⟩
 | _ => ⟨[], [], [], [], []⟩
noncomputable abbrev acT : Cx := ⟨Tryd.prog, ⟨id, abK, abr⟩, abj⟩
theorem ae5 {args : List PV} {r : PV} (ha : args.length = 2) (h : awp acT aek (zW Tryd.prog [.tmp 4] r []) (zS args [])) : PC Tryd.prog 104 args r :=
 zL (X := acT) mixed Tryd.func104 (c := aek) (by kernel_rfl) (by kernel_rfl) (rs := [.tmp 4]) (by kernel_rfl) (by kernel_rfl) (by rw [ha]; decide) h
noncomputable def afy : Code := (Tryd.f80.body).getD .skip
def adH : List (Nat × Nf) := []
def adK : List (Nat × List Nat) := []
def adG : Nat → Ann
 | 0 => ⟨[0], [], [], [], []⟩
 | 1 => ⟨[0, 3], [], [], [], []⟩
 | 2 => ⟨[2], [], [], [], []⟩
 | _ => ⟨[], [], [], [], []⟩
noncomputable abbrev afL : Cx := ⟨Tryd.prog, ⟨id, adH, adK⟩, adG⟩
theorem agA {args : List PV} {r : PV} (ha : args.length = 1) (h : awp afL afy (zW Tryd.prog [.tmp 2] r []) (zS args [])) : PC Tryd.prog 80 args r :=
 zL (X := afL) mixed Tryd.func80 (c := afy) (by kernel_rfl) (by kernel_rfl) (rs := [.tmp 2]) (by kernel_rfl) (by kernel_rfl) (by rw [ha]; decide) h
noncomputable def afQ : Code := (Tryd.f111.body).getD .skip
def adV : List (Nat × Nf) := []
def acR : List (Nat × List Nat) := []
def adz : Nat → Ann
 | 0 => ⟨[0], [], [], [], []⟩
 | 1 => ⟨[0, 5, 6, 7], [], [], [], []⟩
 | 2 => ⟨[0, 5, 6, 7, 8], [], [], [], []⟩
 | 3 => ⟨[0, 3, 4, 5, 6, 7], [], [], [], []⟩
 | 4 => ⟨[0, 5, 6, 7, 27], [], [], [], []⟩
 | 5 => ⟨[2], [], [], [], []⟩
 | 6 => ⟨[0, 5, 6, 7], [], [], [], []⟩
 | 7 => ⟨[2], [], [], [], []⟩
 | _ => ⟨[], [], [], [], []⟩
noncomputable abbrev agd : Cx := ⟨Tryd.prog, ⟨id, adV, acR⟩, adz⟩
theorem agn {args : List PV} {r : PV} (ha : args.length = 1) (h : awp agd afQ (zW Tryd.prog [.tmp 2] r []) (zS args [])) : PC Tryd.prog 111 args r :=
 zL (X := agd) mixed Tryd.func111 (c := afQ) (by kernel_rfl) (by kernel_rfl) (rs := [.tmp 2]) (by kernel_rfl) (by kernel_rfl) (by rw [ha]; decide) h
noncomputable def adJ : Code := (Tryd.f81.body).getD .skip
def abA : List (Nat × Nf) := []
def abg : List (Nat × List Nat) := []
def abq : Nat → Ann
 | 0 => ⟨[0], [], [], [], []⟩
 | 1 => ⟨[2], [], [], [], []⟩
 | _ => ⟨[], [], [], [], []⟩
noncomputable abbrev acM : Cx := ⟨Tryd.prog, ⟨id, abA, abg⟩, abq⟩
theorem ae2 {args : List PV} {r : PV} (ha : args.length = 1) (h : awp acM adJ (zW Tryd.prog [.tmp 2] r []) (zS args [])) : PC Tryd.prog 81 args r :=
 zL (X := acM) mixed Tryd.func81 (c := adJ) (by kernel_rfl) (by kernel_rfl) (rs := [.tmp 2]) (by kernel_rfl) (by kernel_rfl) (by rw [ha]; decide) h
noncomputable def abC : Code := (Tryd.f93.body).getD .skip
def aah : List (Nat × Nf) := []
def aax : List (Nat × List Nat) := []
def aaq : Nat → Ann
 | 0 => ⟨[1], [1], [], [], [1]⟩
 | 1 => ⟨[1, 9], [1], [], [], [1]⟩
 | 2 => ⟨[2], [], [], [], []⟩
 | 3 => ⟨[1, 3], [1, 3], [.thaw 3 3 1], [], [1, 3]⟩
 | 4 => ⟨[1, 3, 34, 35, 36], [1, 3], [], [], [1, 3]⟩
 | 5 => ⟨[1, 3, 34, 35, 36, 37], [1, 3], [], [], [1, 3]⟩
 | 6 => ⟨[1, 3, 5, 34, 35, 36], [1, 3, 5], [], [], [1, 3, 5]⟩
 | 7 => ⟨[1, 3, 5, 34, 35, 36, 43], [1, 3, 5], [], [], [1, 3, 5]⟩
 | 8 => ⟨[2], [], [], [], []⟩
 | 9 => ⟨[1, 3, 34, 35, 36], [1, 3], [], [], [1, 3]⟩
 | 10 => ⟨[1, 3, 34, 35, 36], [1, 3], [], [], [1, 3]⟩
 | 11 => ⟨[1, 69], [1], [], [], [1]⟩
 | 12 => ⟨[2], [], [], [], []⟩
 | 13 => ⟨[1, 71, 72, 73], [1], [], [], [1]⟩
 | 14 => ⟨[1, 71, 72, 73, 74], [1], [], [], [1]⟩
 | 15 => ⟨[1, 6, 7, 71, 72, 73], [1, 7], [], [], [1, 7]⟩
 | 16 => ⟨[1, 71, 72, 73, 94], [1], [], [], [1]⟩
 | 17 => ⟨[2], [], [], [], []⟩
 | 18 => ⟨[1, 71, 72, 73], [1], [], [], [1]⟩
 | 19 => ⟨[2], [], [], [], []⟩
 | _ => ⟨[], [], [], [], []⟩
noncomputable abbrev aa8 : Cx := ⟨Tryd.prog, ⟨id, aah, aax⟩, aaq⟩
theorem ac4 {args : List PV} {r : PV} (ha : args.length = 1) (h : awp aa8 abC (zW Tryd.prog [.tmp 2] r []) (zS args [])) : PC Tryd.prog 93 args r :=
 zL (X := aa8) mixed Tryd.func93 (c := abC) (by kernel_rfl) (by kernel_rfl) (rs := [.tmp 2]) (by kernel_rfl) (by kernel_rfl) (by rw [ha]; decide) h
noncomputable def adI : Code := (Tryd.f94.body).getD .skip
def abv : List (Nat × Nf) := []
def ab1 : List (Nat × List Nat) := []
def ab9 : Nat → Ann
 | 0 => ⟨[1], [1], [], [], [1]⟩
 | 1 => ⟨[1, 7], [1], [], [], [1]⟩
 | 2 => ⟨[2], [], [], [], []⟩
 | 3 => ⟨[1, 3], [1], [], [], [1]⟩
 | 4 => ⟨[3, 9, 10, 11], [], [], [], []⟩
 | 5 => ⟨[3, 9, 10, 11, 12], [], [], [], []⟩
 | 6 => ⟨[3, 5, 9, 10, 11], [5], [], [], [5]⟩
 | 7 => ⟨[3, 9, 10, 11], [], [], [], []⟩
 | 8 => ⟨[3, 9, 10, 11], [], [], [], []⟩
 | 9 => ⟨[2], [], [], [], []⟩
 | _ => ⟨[], [], [], [], []⟩
noncomputable abbrev ady : Cx := ⟨Tryd.prog, ⟨id, abv, ab1⟩, ab9⟩
theorem ae9 {args : List PV} {r : PV} (ha : args.length = 1) (h : awp ady adI (zW Tryd.prog [.tmp 2] r []) (zS args [])) : PC Tryd.prog 94 args r :=
 zL (X := ady) mixed Tryd.func94 (c := adI) (by kernel_rfl) (by kernel_rfl) (rs := [.tmp 2]) (by kernel_rfl) (by kernel_rfl) (by rw [ha]; decide) h
noncomputable def adZ : Code := (Tryd.f64.body).getD .skip
def abH : List (Nat × Nf) := []
def abP : List (Nat × List Nat) := []
def abG : Nat → Ann
 | 0 => ⟨[1], [1], [], [], [1]⟩
 | 1 => ⟨[1, 3], [1], [], [], [1]⟩
 | 2 => ⟨[2], [], [], [], []⟩
 | 3 => ⟨[1, 7], [1], [], [], [1]⟩
 | 4 => ⟨[2], [], [], [], []⟩
 | 5 => ⟨[11], [], [], [], []⟩
 | 6 => ⟨[2], [], [], [], []⟩
 | 7 => ⟨[2], [], [], [], []⟩
 | _ => ⟨[], [], [], [], []⟩
noncomputable abbrev ael : Cx := ⟨Tryd.prog, ⟨id, abH, abP⟩, abG⟩
theorem aeZ {args : List PV} {r : PV} (ha : args.length = 1) (h : awp ael adZ (zW Tryd.prog [.tmp 2] r []) (zS args [])) : PC Tryd.prog 64 args r :=
 zL (X := ael) mixed Tryd.func64 (c := adZ) (by kernel_rfl) (by kernel_rfl) (rs := [.tmp 2]) (by kernel_rfl) (by kernel_rfl) (by rw [ha]; decide) h
noncomputable def ad1 : Code := (Tryd.f36.body).getD .skip
def abO : List (Nat × Nf) := []
def aa7 : List (Nat × List Nat) := []
def aca : Nat → Ann
 | 0 => ⟨[1], [1], [], [], [1]⟩
 | 1 => ⟨[2], [], [], [], []⟩
 | _ => ⟨[], [], [], [], []⟩
noncomputable abbrev aei : Cx := ⟨Tryd.prog, ⟨id, abO, aa7⟩, aca⟩
theorem aeO {args : List PV} {r : PV} (ha : args.length = 1) (h : awp aei ad1 (zW Tryd.prog [.tmp 2] r []) (zS args [])) : PC Tryd.prog 36 args r :=
 zL (X := aei) mixed Tryd.func36 (c := ad1) (by kernel_rfl) (by kernel_rfl) (rs := [.tmp 2]) (by kernel_rfl) (by kernel_rfl) (by rw [ha]; decide) h
noncomputable def Y4 : Code := (Tryd.f66.body).getD .skip
def Yl : List (Nat × Nf) := []
def Yj : List (Nat × List Nat) := []
def Yp : Nat → Ann
 | 0 => ⟨[2, 3], [2, 3], [], [], [2, 3]⟩
 | 1 => ⟨[4], [], [], [], []⟩
 | _ => ⟨[], [], [], [], []⟩
noncomputable abbrev aaF : Cx := ⟨Tryd.prog, ⟨id, Yl, Yj⟩, Yp⟩
theorem acm {args : List PV} {r : PV} (ha : args.length = 2) (h : awp aaF Y4 (zW Tryd.prog [.tmp 4] r []) (zS args [])) : PC Tryd.prog 66 args r :=
 zL (X := aaF) mixed Tryd.func66 (c := Y4) (by kernel_rfl) (by kernel_rfl) (rs := [.tmp 4]) (by kernel_rfl) (by kernel_rfl) (by rw [ha]; decide) h
noncomputable def vH : Code := (Tryd.f67.body).getD .skip
def vB : List (Nat × Nf) := []
def vw : List (Nat × List Nat) := []
def vz : Nat → Ann
 | 0 => ⟨[0, 1, 2], [], [], [], []⟩
 | 1 => ⟨[0, 1, 2, 14], [], [], [], []⟩
 | 2 => ⟨[6], [], [], [], []⟩
 | 3 => ⟨[1, 2, 15, 16, 17], [], [], [], []⟩
 | 4 => ⟨[1, 2, 15, 16, 17, 18], [], [], [], []⟩
 | 5 => ⟨[1, 2, 7, 8, 15, 16, 17], [8], [], [], [8]⟩
 | 6 => ⟨[1, 2, 8, 9, 15, 16, 17], [8, 9], [], [], [8, 9]⟩
 | 7 => ⟨[1, 2, 15, 16, 17, 30], [], [], [], []⟩
 | 8 => ⟨[6], [], [], [], []⟩
 | 9 => ⟨[1, 2, 15, 16, 17], [], [], [], []⟩
 | 10 => ⟨[6], [], [], [], []⟩
 | _ => ⟨[], [], [], [], []⟩
noncomputable abbrev vJ : Cx := ⟨Tryd.prog, ⟨id, vB, vw⟩, vz⟩
theorem xX {args : List PV} {r : PV} (ha : args.length = 3) (h : awp vJ vH (zW Tryd.prog [.tmp 6] r []) (zS args [])) : PC Tryd.prog 67 args r :=
 zL (X := vJ) mixed Tryd.func67 (c := vH) (by kernel_rfl) (by kernel_rfl) (rs := [.tmp 6]) (by kernel_rfl) (by kernel_rfl) (by rw [ha]; decide) h
noncomputable def adk : Code := (Tryd.f39.body).getD .skip
def abD : List (Nat × Nf) := []
def abQ : List (Nat × List Nat) := []
def abR : Nat → Ann
 | 0 => ⟨[2, 3], [2, 3], [], [], [2, 3]⟩
 | 1 => ⟨[2, 3, 5], [2, 3], [], [], [2, 3]⟩
 | 2 => ⟨[4], [], [], [], []⟩
 | _ => ⟨[], [], [], [], []⟩
noncomputable abbrev adN : Cx := ⟨Tryd.prog, ⟨id, abD, abQ⟩, abR⟩
theorem aeK {args : List PV} {r : PV} (ha : args.length = 2) (h : awp adN adk (zW Tryd.prog [.tmp 4] r []) (zS args [])) : PC Tryd.prog 39 args r :=
 zL (X := adN) mixed Tryd.func39 (c := adk) (by kernel_rfl) (by kernel_rfl) (rs := [.tmp 4]) (by kernel_rfl) (by kernel_rfl) (by rw [ha]; decide) h
noncomputable def QD : Code := (Tryd.f43.body).getD .skip
def ZL : List (Nat × Nf) := []
def ZB : List (Nat × List Nat) := []
def ZJ : Nat → Ann
 | 0 => ⟨[0, 1], [], [], [], []⟩
 | 1 => ⟨[0, 1, 10], [], [], [], []⟩
 | 2 => ⟨[4], [], [], [], []⟩
 | 3 => ⟨[0, 1, 12, 13], [], [], [], []⟩
 | 4 => ⟨[0, 1, 12, 13, 14], [], [], [], []⟩
 | 5 => ⟨[0, 1, 5, 12, 13], [], [], [], []⟩
 | 6 => ⟨[0, 1, 12, 13, 24], [], [], [], []⟩
 | 7 => ⟨[4], [], [], [], []⟩
 | 8 => ⟨[0, 1, 12, 13], [], [], [], []⟩
 | 9 => ⟨[4], [], [], [], []⟩
 | _ => ⟨[], [], [], [], []⟩
noncomputable abbrev QF : Cx := ⟨Tryd.prog, ⟨id, ZL, ZB⟩, ZJ⟩
theorem Vs {args : List PV} {r : PV} (ha : args.length = 2) (h : awp QF QD (zW Tryd.prog [.tmp 4] r []) (zS args [])) : PC Tryd.prog 43 args r :=
 zL (X := QF) mixed Tryd.func43 (c := QD) (by kernel_rfl) (by kernel_rfl) (rs := [.tmp 4]) (by kernel_rfl) (by kernel_rfl) (by rw [ha]; decide) h
noncomputable def ji : Code := (Tryd.f44.body).getD .skip
def jc : List (Nat × Nf) := []
def jb : List (Nat × List Nat) := []
def vW : Nat → Ann
 | 0 => ⟨[0, 1, 2], [], [], [], []⟩
 | 1 => ⟨[0, 1, 2, 14], [], [], [], []⟩
 | 2 => ⟨[6], [], [], [], []⟩
 | 3 => ⟨[1, 2, 15, 16, 17], [], [], [], []⟩
 | 4 => ⟨[1, 2, 15, 16, 17, 18], [], [], [], []⟩
 | 5 => ⟨[1, 2, 7, 8, 15, 16, 17], [8], [], [], [8]⟩
 | 6 => ⟨[1, 2, 8, 9, 15, 16, 17], [8, 9], [], [], [8, 9]⟩
 | 7 => ⟨[1, 2, 15, 16, 17, 30], [], [], [], []⟩
 | 8 => ⟨[6], [], [], [], []⟩
 | 9 => ⟨[1, 2, 15, 16, 17], [], [], [], []⟩
 | 10 => ⟨[6], [], [], [], []⟩
 | _ => ⟨[], [], [], [], []⟩
noncomputable abbrev jh : Cx := ⟨Tryd.prog, ⟨id, jc, jb⟩, vW⟩
theorem yD {args : List PV} {r : PV} (ha : args.length = 3) (h : awp jh ji (zW Tryd.prog [.tmp 6] r []) (zS args [])) : PC Tryd.prog 44 args r :=
 zL (X := jh) mixed Tryd.func44 (c := ji) (by kernel_rfl) (by kernel_rfl) (rs := [.tmp 6]) (by kernel_rfl) (by kernel_rfl) (by rw [ha]; decide) h
noncomputable def afX : Code := (Tryd.f15.body).getD .skip
def aed : List (Nat × Nf) := []
def ads : List (Nat × List Nat) := []
def ac7 : Nat → Ann
 | 0 => ⟨[2, 3], [2, 3], [], [], [2, 3]⟩
 | 1 => ⟨[4], [], [], [], []⟩
 | _ => ⟨[], [], [], [], []⟩
noncomputable abbrev aga : Cx := ⟨Tryd.prog, ⟨id, aed, ads⟩, ac7⟩
theorem agu {args : List PV} {r : PV} (ha : args.length = 2) (h : awp aga afX (zW Tryd.prog [.tmp 4] r []) (zS args [])) : PC Tryd.prog 15 args r :=
 zL (X := aga) mixed Tryd.func15 (c := afX) (by kernel_rfl) (by kernel_rfl) (rs := [.tmp 4]) (by kernel_rfl) (by kernel_rfl) (by rw [ha]; decide) h
noncomputable def Ku : Code := (Tryd.f68.body).getD .skip
def WM : List (Nat × Nf) := []
def Wy : List (Nat × List Nat) := [(39, [1000]), (40, [1000]), (41, [1000]), (43, [1000]), (44, [1000]), (45, [1000]), (47, [3]), (48, [3]), (50, [1000]), (51, [1000]), (52, [1000]), (53, [1000]), (55, []), (56, []), (57, []), (60, [59, 1002]), (61, [1000]), (62, [1000])]
def Wz : Nat → Ann
 | 0 => ⟨[0, 8, 9, 10], [1000, 1001, 1002], [], [], [1000, 1001, 1002]⟩
 | 1 => ⟨[0, 8, 9, 10, 11], [1000, 1001, 1002], [], [], [1000, 1001, 1002]⟩
 | 2 => ⟨[0, 2, 3, 8, 9, 10], [3, 1000, 1001, 1002], [], [], [3, 1000, 1001, 1002]⟩
 | 3 => ⟨[0, 2, 3, 8, 9, 10, 36], [3, 1000, 1001, 1002], [], [], [3, 1000, 1001, 1002]⟩
 | 4 => ⟨[0, 8, 9, 10], [1000, 1001, 1002], [], [], [1000, 1001, 1002]⟩
 | 5 => ⟨[0, 8, 9, 10], [1000, 1001, 1002], [], [], [1000, 1001, 1002]⟩
 | _ => ⟨[], [], [], [], []⟩
noncomputable abbrev KS : Cx := ⟨Tryd.prog, ⟨(fun d => if d = 58 then 0 else d), WM, Wy⟩, Wz⟩
theorem J7 {args : List PV} {es es' : List Ent} {r : PV} (ha : args.length = 1) (hl : es'.length = es.length) (he : (es'.all fun e => e.wX es.length) = true) (h : awp KS Ku (zW Tryd.prog [] r es') (zS args es)) : BC Tryd.prog 68 args es r es' :=
 Qk (X := KS) mixed Tryd.func68 (c := Ku) (by kernel_rfl) (by kernel_rfl) (rs := []) (by kernel_rfl) (by kernel_rfl) (by rw [ha]; decide) hl (fun e h => List.all_eq_true.1 he e h) h
noncomputable def ajX : Code := (Tryd.f40.body).getD .skip
def agV : List (Nat × Nf) := []
def ahL : List (Nat × List Nat) := [(151, [12]), (152, [12]), (153, [12]), (155, [12]), (156, [12]), (157, [12]), (159, [158, 394]), (160, [12]), (161, [12])]
def ahb : Nat → Ann
 | 0 => ⟨[2, 3], [2, 3], [], [], [2, 3]⟩
 | 1 => ⟨[5], [12, 394, 399], [.K5 12 10 394 1, .K5 12 15 399 6], [], [12, 394, 399]⟩
 | 2 => ⟨[5], [12, 394, 399], [], [], [12, 394, 399]⟩
 | 3 => ⟨[5, 6, 7], [12, 394, 399], [], [], [12, 394, 399]⟩
 | 4 => ⟨[5, 6, 7], [12, 394, 399], [], [], [12, 394, 399]⟩
 | 5 => ⟨[5, 6, 7, 54], [12, 394, 399], [], [], [12, 394, 399]⟩
 | 6 => ⟨[5, 6, 7], [12, 394, 399], [], [], [12, 394, 399]⟩
 | 7 => ⟨[5, 6, 7, 8], [12, 394, 399], [], [], [12, 394, 399]⟩
 | 8 => ⟨[5, 6, 7, 8, 92], [12, 394, 399], [], [], [12, 394, 399]⟩
 | 9 => ⟨[5, 6, 7, 8], [12, 394, 399], [], [], [12, 394, 399]⟩
 | 10 => ⟨[5, 6, 7], [12, 394, 399], [], [], [12, 394, 399]⟩
 | 11 => ⟨[5, 6, 7, 148], [12, 394, 399], [], [], [12, 394, 399]⟩
 | 12 => ⟨[5, 6, 7], [12, 394, 399], [], [], [12, 394, 399]⟩
 | 13 => ⟨[5, 6, 7], [12, 394, 399], [], [], [12, 394, 399]⟩
 | 14 => ⟨[5], [12, 394, 399], [], [], [12, 394, 399]⟩
 | 15 => ⟨[4], [12, 399], [.nrm 4 [none, none, none, none, none, none, none, none, none, none, some 1, none, none, none, none, none]], [], [12, 399]⟩
 | _ => ⟨[], [], [], [], []⟩
noncomputable abbrev akc : Cx := ⟨Tryd.prog, ⟨id, agV, ahL⟩, ahb⟩
theorem ai9 {args : List PV} {r : PV} (ha : args.length = 2) (h : awp akc ajX (zW Tryd.prog [.tmp 4] r []) (zS args [])) : PC Tryd.prog 40 args r :=
 zL (X := akc) mixed Tryd.func40 (c := ajX) (by kernel_rfl) (by kernel_rfl) (rs := [.tmp 4]) (by kernel_rfl) (by kernel_rfl) (by rw [ha]; decide) h
noncomputable def Ww : Code := (Tryd.f69.body).getD .skip
def Wp : List (Nat × Nf) := []
def Wh : List (Nat × List Nat) := []
def Q7 : Nat → Ann
 | 0 => ⟨[0], [5], [], [], [5]⟩
 | 1 => ⟨[0, 4], [5], [], [], [5]⟩
 | 2 => ⟨[2], [5], [], [], [5]⟩
 | 3 => ⟨[2], [5], [], [], [5]⟩
 | _ => ⟨[], [], [], [], []⟩
noncomputable abbrev WG : Cx := ⟨Tryd.prog, ⟨id, Wp, Wh⟩, Q7⟩
theorem Jk {args : List PV} {r : PV} (ha : args.length = 1) (h : awp WG Ww (zW Tryd.prog [.tmp 2] r []) (zS args [])) : PC Tryd.prog 69 args r :=
 zL (X := WG) mixed Tryd.func69 (c := Ww) (by kernel_rfl) (by kernel_rfl) (rs := [.tmp 2]) (by kernel_rfl) (by kernel_rfl) (by rw [ha]; decide) h
noncomputable def Qi : Code := (Tryd.f70.body).getD .skip
def ZG : List (Nat × Nf) := []
def ZM : List (Nat × List Nat) := []
def ZN : Nat → Ann
 | 0 => ⟨[0], [5], [], [], [5]⟩
 | 1 => ⟨[0, 4], [5], [], [], [5]⟩
 | 2 => ⟨[2], [5], [], [], [5]⟩
 | 3 => ⟨[2], [5], [], [], [5]⟩
 | _ => ⟨[], [], [], [], []⟩
noncomputable abbrev QA : Cx := ⟨Tryd.prog, ⟨id, ZG, ZM⟩, ZN⟩
theorem Vv {args : List PV} {r : PV} (ha : args.length = 1) (h : awp QA Qi (zW Tryd.prog [.tmp 2] r []) (zS args [])) : PC Tryd.prog 70 args r :=
 zL (X := QA) mixed Tryd.func70 (c := Qi) (by kernel_rfl) (by kernel_rfl) (rs := [.tmp 2]) (by kernel_rfl) (by kernel_rfl) (by rw [ha]; decide) h
noncomputable def Qw : Code := (Tryd.f71.body).getD .skip
def ZT : List (Nat × Nf) := []
def Zy : List (Nat × List Nat) := []
def ZW : Nat → Ann
 | 0 => ⟨[0], [5], [], [], [5]⟩
 | 1 => ⟨[0, 4], [5], [], [], [5]⟩
 | 2 => ⟨[2], [5], [], [], [5]⟩
 | 3 => ⟨[2], [5], [], [], [5]⟩
 | _ => ⟨[], [], [], [], []⟩
noncomputable abbrev Qt : Cx := ⟨Tryd.prog, ⟨id, ZT, Zy⟩, ZW⟩
theorem Vl {args : List PV} {r : PV} (ha : args.length = 1) (h : awp Qt Qw (zW Tryd.prog [.tmp 2] r []) (zS args [])) : PC Tryd.prog 71 args r :=
 zL (X := Qt) mixed Tryd.func71 (c := Qw) (by kernel_rfl) (by kernel_rfl) (rs := [.tmp 2]) (by kernel_rfl) (by kernel_rfl) (by rw [ha]; decide) h
noncomputable def afT : Code := (Tryd.f41.body).getD .skip
def adp : List (Nat × Nf) := [(32, [none, none, none, none, some 5])]
def adw : List (Nat × List Nat) := [(5, [1]), (6, [1]), (8, [1]), (9, [1]), (11, [1]), (12, [1]), (13, []), (14, [1]), (15, [1]), (16, [1])]
def adQ : Nat → Ann
 | 0 => ⟨[1, 2], [1, 2], [.nrm 2 [none, none, some 1, some 2, some 5]], [], [1, 2]⟩
 | 1 => ⟨[1, 2], [1, 2, 13], [], [.ren 13 311], [1, 2, 13, 311]⟩
 | 2 => ⟨[1, 2, 18, 19, 20], [1, 2, 311], [], [.ren 311 18], [1, 2, 18, 311]⟩
 | 3 => ⟨[1, 2, 18, 19, 20, 21], [1, 2, 18], [], [], [1, 2, 18]⟩
 | 4 => ⟨[1, 2, 3, 4, 18, 19, 20], [1, 2, 4, 18], [], [], [1, 2, 4, 18]⟩
 | 5 => ⟨[1, 2, 18, 19, 20], [1, 2, 18], [], [], [1, 2, 18]⟩
 | 6 => ⟨[1, 2, 18, 19, 20], [1, 2, 18], [], [], [1, 2, 18]⟩
 | 7 => ⟨[2], [2], [], [], [2]⟩
 | _ => ⟨[], [], [], [], []⟩
noncomputable abbrev afK : Cx := ⟨Tryd.prog, ⟨id, adp, adw⟩, adQ⟩
theorem agi {args : List PV} {r : PV} (ha : args.length = 1) (h : awp afK afT (zW Tryd.prog [.cell 2 28] r []) (zS args [])) : PC Tryd.prog 41 args r :=
 zL (X := afK) mixed Tryd.func41 (c := afT) (by kernel_rfl) (by kernel_rfl) (rs := [.cell 2 28]) (by kernel_rfl) (by kernel_rfl) (by rw [ha]; decide) h
noncomputable def acW : Code := (Tryd.f13.body).getD .skip
def aa9 : List (Nat × Nf) := []
def abS : List (Nat × List Nat) := []
def abT : Nat → Ann
 | 0 => ⟨[2, 3], [2, 3], [], [], [2, 3]⟩
 | 1 => ⟨[2, 3, 23], [2, 3], [], [], [2, 3]⟩
 | 2 => ⟨[4, 5], [], [.nrm 4 [some 6]], [], []⟩
 | 3 => ⟨[6], [26, 526], [], [.ren 526 497], [26, 497, 526]⟩
 | 4 => ⟨[6, 36], [26, 497], [], [], [26, 497]⟩
 | 5 => ⟨[4, 5], [497], [], [.ren 497 4], [4, 497]⟩
 | 6 => ⟨[6, 7], [26, 497], [], [], [26, 497]⟩
 | 7 => ⟨[6, 7, 8], [26, 497], [], [], [26, 497]⟩
 | 8 => ⟨[6, 7, 8, 9], [26, 497], [], [], [26, 497]⟩
 | 9 => ⟨[4, 5], [497], [], [.ren 497 4], [4, 497]⟩
 | _ => ⟨[], [], [], [], []⟩
noncomputable abbrev ac9 : Cx := ⟨Tryd.prog, ⟨id, aa9, abS⟩, abT⟩
theorem aeL {args : List PV} {r : PV} (ha : args.length = 2) (h : awp ac9 acW (zW Tryd.prog [.tmp 4, .tmp 5] r []) (zS args [])) : PC Tryd.prog 13 args r :=
 zL (X := ac9) mixed Tryd.func13 (c := acW) (by kernel_rfl) (by kernel_rfl) (rs := [.tmp 4, .tmp 5]) (by kernel_rfl) (by kernel_rfl) (by rw [ha]; decide) h
noncomputable def KH : Code := (Tryd.f11.body).getD .skip
def WC : List (Nat × Nf) := [(5, [none, none, some 1, some 2, some 5]), (7, [none, none, some 1, some 2, some 5]), (8, [none, none, some 1, some 2, some 5]), (10, [none, none, some 1, some 2, some 5]), (11, [none, none, some 1, some 2, some 5]), (13, [none, none, some 1, some 2, some 5]), (14, [none, none, some 1, some 2, some 5]), (16, [none, none, some 1, some 2, some 5])]
def WL : List (Nat × List Nat) := []
def Wx : Nat → Ann
 | 0 => ⟨[], [], [], [], []⟩
 | 1 => ⟨[1], [1], [], [], [1]⟩
 | 2 => ⟨[1, 2], [1, 2], [], [], [1, 2]⟩
 | 3 => ⟨[3, 4], [], [], [], []⟩
 | 4 => ⟨[0], [], [], [], []⟩
 | _ => ⟨[], [], [], [], []⟩
noncomputable abbrev KR : Cx := ⟨Tryd.prog, ⟨id, WC, WL⟩, Wx⟩
theorem JW {args : List PV} {r : PV} (ha : args.length = 0) (h : awp KR KH (zW Tryd.prog [.tmp 0] r []) (zS args [])) : PC Tryd.prog 11 args r :=
 zL (X := KR) mixed Tryd.func11 (c := KH) (by kernel_rfl) (by kernel_rfl) (rs := [.tmp 0]) (by kernel_rfl) (by kernel_rfl) (by rw [ha]; decide) h
noncomputable def Va : Code := (Tryd.f29.body).getD .skip
def KC : List (Nat × Nf) := []
def Kz : List (Nat × List Nat) := []
def KQ : Nat → Ann
 | 0 => ⟨[0, 1], [], [], [], []⟩
 | 1 => ⟨[0, 1, 6], [], [], [], []⟩
 | 2 => ⟨[0, 1], [], [], [], []⟩
 | 3 => ⟨[4], [], [], [], []⟩
 | _ => ⟨[], [], [], [], []⟩
noncomputable abbrev K8 : Cx := ⟨Tryd.prog, ⟨id, KC, Kz⟩, KQ⟩
theorem Xm {args : List PV} {r : PV} (ha : args.length = 2) (h : awp K8 Va (zW Tryd.prog [.tmp 4] r []) (zS args [])) : PC Tryd.prog 29 args r :=
 zL (X := K8) mixed Tryd.func29 (c := Va) (by kernel_rfl) (by kernel_rfl) (rs := [.tmp 4]) (by kernel_rfl) (by kernel_rfl) (by rw [ha]; decide) h
noncomputable def Qz : Code := (Tryd.f95.body).getD .skip
def ZK : List (Nat × Nf) := []
def ZR : List (Nat × List Nat) := []
def ZE : Nat → Ann
 | 0 => ⟨[0, 1], [], [], [], []⟩
 | 1 => ⟨[0, 1, 10], [], [], [], []⟩
 | 2 => ⟨[4], [], [], [], []⟩
 | 3 => ⟨[0, 1, 5], [], [], [], []⟩
 | 4 => ⟨[0, 1, 5, 14], [], [], [], []⟩
 | 5 => ⟨[0, 1, 5], [], [], [], []⟩
 | 6 => ⟨[0, 1, 5, 25], [], [], [], []⟩
 | 7 => ⟨[4], [], [], [], []⟩
 | 8 => ⟨[4], [], [], [], []⟩
 | _ => ⟨[], [], [], [], []⟩
noncomputable abbrev Qy : Cx := ⟨Tryd.prog, ⟨id, ZK, ZR⟩, ZE⟩
theorem Vr {args : List PV} {r : PV} (ha : args.length = 2) (h : awp Qy Qz (zW Tryd.prog [.tmp 4] r []) (zS args [])) : PC Tryd.prog 95 args r :=
 zL (X := Qy) mixed Tryd.func95 (c := Qz) (by kernel_rfl) (by kernel_rfl) (rs := [.tmp 4]) (by kernel_rfl) (by kernel_rfl) (by rw [ha]; decide) h
noncomputable def VZ : Code := (Tryd.f65.body).getD .skip
def Vj : List (Nat × Nf) := []
def Vb : List (Nat × List Nat) := [(65, [3]), (66, [3, 62]), (67, [5]), (69, [62, 68])]
def K7 : Nat → Ann
 | 0 => ⟨[0], [], [], [], []⟩
 | 1 => ⟨[0, 3], [3], [.thaw 3 3 5], [], [3]⟩
 | 2 => ⟨[0, 3, 4], [3], [], [], [3]⟩
 | 3 => ⟨[0, 3, 4, 10], [3], [], [], [3]⟩
 | 4 => ⟨[0, 3, 4], [3], [], [], [3]⟩
 | 5 => ⟨[0, 3, 4, 5], [3, 5], [], [], [3, 5]⟩
 | 6 => ⟨[0, 3, 4, 5, 6], [3, 5], [], [], [3, 5]⟩
 | 7 => ⟨[0, 3, 4, 5, 6, 27], [3, 5], [], [], [3, 5]⟩
 | 8 => ⟨[0, 3, 4, 5, 6, 52], [3, 5], [], [], [3, 5]⟩
 | 9 => ⟨[0, 3, 4, 5, 6], [3, 5], [], [], [3, 5]⟩
 | 10 => ⟨[0, 3, 4], [62], [], [.ren 62 3], [3, 62]⟩
 | 11 => ⟨[0, 3, 4], [3], [], [], [3]⟩
 | 12 => ⟨[2], [3], [], [.ren 3 2], [2, 3]⟩
 | _ => ⟨[], [], [], [], []⟩
noncomputable abbrev Jb : Cx := ⟨Tryd.prog, ⟨id, Vj, Vb⟩, K7⟩
theorem Ya {args : List PV} {r : PV} (ha : args.length = 1) (h : awp Jb VZ (zW Tryd.prog [.tmp 2] r []) (zS args [])) : PC Tryd.prog 65 args r :=
 zL (X := Jb) mixed Tryd.func65 (c := VZ) (by kernel_rfl) (by kernel_rfl) (rs := [.tmp 2]) (by kernel_rfl) (by kernel_rfl) (by rw [ha]; decide) h
noncomputable def KX : Code := (Tryd.f37.body).getD .skip
def KE : List (Nat × Nf) := [(29, [none, none, some 1, some 2, none])]
def Ky : List (Nat × List Nat) := []
def Kr : Nat → Ann
 | 0 => ⟨[1, 2, 4], [2, 4], [.nrm 4 [none, none, some 1, some 2, some 5]], [], [2, 4]⟩
 | 1 => ⟨[1, 2, 4, 5], [2, 4, 8], [], [.ren 8 5], [2, 4, 5, 8]⟩
 | 2 => ⟨[1, 2, 4, 5, 6], [2, 4, 5, 9], [], [.ren 9 6], [2, 4, 5, 6, 9]⟩
 | 3 => ⟨[1, 4, 7], [4, 25], [], [.ren 25 7], [4, 7, 25]⟩
 | 4 => ⟨[4], [4], [], [], [4]⟩
 | _ => ⟨[], [], [], [], []⟩
noncomputable abbrev Vh : Cx := ⟨Tryd.prog, ⟨id, KE, Ky⟩, Kr⟩
theorem XA {args : List PV} {r : PV} (ha : args.length = 2) (h : awp Vh KX (zW Tryd.prog [.cell 4 28] r []) (zS args [])) : PC Tryd.prog 37 args r :=
 zL (X := Vh) mixed Tryd.func37 (c := KX) (by kernel_rfl) (by kernel_rfl) (rs := [.cell 4 28]) (by kernel_rfl) (by kernel_rfl) (by rw [ha]; decide) h
noncomputable def KZ : Code := (Tryd.f38.body).getD .skip
def KG : List (Nat × Nf) := []
def KP : List (Nat × List Nat) := []
def Kq : Nat → Ann
 | 0 => ⟨[1], [1], [], [], [1]⟩
 | 1 => ⟨[1, 7], [1], [], [], [1]⟩
 | 2 => ⟨[2], [], [], [], []⟩
 | 3 => ⟨[1, 3], [1], [], [], [1]⟩
 | 4 => ⟨[1, 3, 4], [1], [], [], [1]⟩
 | 5 => ⟨[1, 3, 4, 12], [1], [], [], [1]⟩
 | 6 => ⟨[1, 3, 4], [1], [], [], [1]⟩
 | 7 => ⟨[1, 3, 4], [1], [], [], [1]⟩
 | 8 => ⟨[2], [], [], [], []⟩
 | _ => ⟨[], [], [], [], []⟩
noncomputable abbrev Vi : Cx := ⟨Tryd.prog, ⟨id, KG, KP⟩, Kq⟩
theorem Xn {args : List PV} {r : PV} (ha : args.length = 1) (h : awp Vi KZ (zW Tryd.prog [.tmp 2] r []) (zS args [])) : PC Tryd.prog 38 args r :=
 zL (X := Vi) mixed Tryd.func38 (c := KZ) (by kernel_rfl) (by kernel_rfl) (rs := [.tmp 2]) (by kernel_rfl) (by kernel_rfl) (by rw [ha]; decide) h
noncomputable def VN : Code := (Tryd.f12.body).getD .skip
def Vf : List (Nat × Nf) := [(14, [none, none, some 1, some 2, none]), (34, [none, none, none, some 2, some 5]), (62, [none, none, some 1, none, none]), (93, [none, none, some 1, some 2, none]), (171, [none, none, none, none, some 5]), (173, [none, none, some 1, some 2, some 5]), (177, [none, none, none, none, some 5])]
def K4 : List (Nat × List Nat) := [(115, [12]), (116, [12]), (117, [114]), (118, [11]), (120, [114, 119]), (121, [12]), (123, [4]), (124, [4]), (126, [332]), (127, [122, 332]), (128, [12]), (130, [122, 129]), (131, [4]), (152, [11]), (153, [11]), (154, [4]), (155, [4]), (157, [332]), (158, [332]), (160, [159, 381]), (161, [11]), (500121, [12, 114]), (500131, [4, 122])]
def KY : Nat → Ann
 | 0 => ⟨[0, 2], [2], [.nrm 2 [none, none, some 1, some 2, some 5]], [], [2]⟩
 | 1 => ⟨[0, 2, 3], [2, 13], [], [.ren 13 3], [2, 3, 13]⟩
 | 2 => ⟨[0, 2, 3, 4], [2, 3, 4, 332], [.K5 4 4 332 5], [], [2, 3, 4, 332]⟩
 | 3 => ⟨[0, 2, 3, 4, 5], [2, 3, 4, 5, 332], [.thaw 5 5 5], [], [2, 3, 4, 5, 332]⟩
 | 4 => ⟨[0, 2, 3, 4, 5, 6], [2, 3, 4, 5, 332], [], [], [2, 3, 4, 5, 332]⟩
 | 5 => ⟨[0, 2, 3, 4, 5, 6, 22], [2, 3, 4, 5, 332], [], [], [2, 3, 4, 5, 332]⟩
 | 6 => ⟨[0, 2, 3, 4, 5, 6], [2, 3, 4, 5, 332], [], [], [2, 3, 4, 5, 332]⟩
 | 7 => ⟨[0, 2, 3, 4, 5, 6, 7], [2, 3, 4, 5, 7, 332, 351], [.K5 7 2 351 1], [], [2, 3, 4, 5, 7, 332, 351]⟩
 | 8 => ⟨[0, 2, 3, 4, 5, 6, 7, 42], [2, 3, 4, 5, 7, 332, 351], [], [], [2, 3, 4, 5, 7, 332, 351]⟩
 | 9 => ⟨[0, 2, 3, 4, 5, 6, 7], [2, 3, 4, 5, 7, 332, 351], [], [], [2, 3, 4, 5, 7, 332, 351]⟩
 | 10 => ⟨[0, 2, 3, 4, 5, 6, 7, 55], [2, 3, 4, 5, 7, 332, 351], [], [], [2, 3, 4, 5, 7, 332, 351]⟩
 | 11 => ⟨[0, 2, 3, 4, 5, 6, 7], [2, 3, 4, 5, 7, 332, 351], [], [], [2, 3, 4, 5, 7, 332, 351]⟩
 | 12 => ⟨[0, 2, 3, 4, 5, 6], [2, 3, 4, 5, 332], [], [], [2, 3, 4, 5, 332]⟩
 | 13 => ⟨[0, 2, 3, 4, 5, 6, 8], [2, 3, 4, 5, 332], [], [], [2, 3, 4, 5, 332]⟩
 | 14 => ⟨[0, 2, 3, 4, 5, 6, 8, 72], [2, 3, 4, 5, 332], [], [], [2, 3, 4, 5, 332]⟩
 | 15 => ⟨[0, 2, 3, 4, 6, 8, 9], [2, 3, 4, 9, 332], [], [], [2, 3, 4, 9, 332]⟩
 | 16 => ⟨[0, 2, 3, 4, 5, 6, 8, 9], [2, 3, 4, 5, 9, 332], [.thaw 5 5 5], [], [2, 3, 4, 5, 9, 332]⟩
 | 17 => ⟨[0, 2, 3, 4, 5, 6, 8, 9, 10], [2, 3, 4, 5, 9, 332], [], [], [2, 3, 4, 5, 9, 332]⟩
 | 18 => ⟨[0, 2, 3, 4, 5, 6, 8, 9, 10, 84], [2, 3, 4, 5, 9, 332], [], [], [2, 3, 4, 5, 9, 332]⟩
 | 19 => ⟨[0, 2, 3, 4, 5, 6], [2, 3, 4, 5, 332], [], [], [2, 3, 4, 5, 332]⟩
 | 20 => ⟨[0, 2, 3, 4, 5, 6, 8, 10, 11], [2, 3, 4, 5, 11, 92, 332], [], [.ren 92 381], [2, 3, 4, 5, 11, 92, 332, 381]⟩
 | 21 => ⟨[0, 2, 3, 4, 5, 6, 10, 11, 108], [2, 3, 4, 5, 11, 332, 381], [], [], [2, 3, 4, 5, 11, 332, 381]⟩
 | 22 => ⟨[0, 2, 3, 4, 5, 6, 10, 11, 12], [2, 3, 4, 5, 11, 12, 332, 381], [], [], [2, 3, 4, 5, 11, 12, 332, 381]⟩
 | 23 => ⟨[0, 2, 3, 4, 5, 6, 10, 12], [2, 3, 4, 5, 12, 332], [.nrm 12 [none, none, none, none, some 5]], [], [2, 3, 4, 5, 12, 332]⟩
 | 24 => ⟨[0, 2, 3, 4, 5, 6], [2, 3, 4, 5, 122], [], [.ren 122 332], [2, 3, 4, 5, 122, 332]⟩
 | 25 => ⟨[0, 2, 3, 4, 5, 6, 10, 11, 151], [2, 3, 4, 5, 11, 332, 381], [], [], [2, 3, 4, 5, 11, 332, 381]⟩
 | 26 => ⟨[0, 2, 3, 4, 5, 6, 10, 11], [2, 3, 4, 5, 11, 332, 381], [], [], [2, 3, 4, 5, 11, 332, 381]⟩
 | 27 => ⟨[0, 2, 3, 4, 5, 6, 11], [2, 3, 4, 5, 11, 162, 381], [], [.ren 162 332], [2, 3, 4, 5, 11, 162, 332, 381]⟩
 | 28 => ⟨[0, 2, 3, 4, 5, 6], [2, 3, 4, 5, 332], [], [], [2, 3, 4, 5, 332]⟩
 | 29 => ⟨[2], [2], [], [], [2]⟩
 | _ => ⟨[], [], [], [], []⟩
noncomputable abbrev VD : Cx := ⟨Tryd.prog, ⟨id, Vf, K4⟩, KY⟩
theorem XF {args : List PV} {r : PV} (ha : args.length = 1) (h : awp VD VN (zW Tryd.prog [.cell 2 28] r []) (zS args [])) : PC Tryd.prog 12 args r :=
 zL (X := VD) mixed Tryd.func12 (c := VN) (by kernel_rfl) (by kernel_rfl) (rs := [.cell 2 28]) (by kernel_rfl) (by kernel_rfl) (by rw [ha]; decide) h
noncomputable def V6 : Code := (Tryd.f100.body).getD .skip
def Vk : List (Nat × Nf) := []
def Vd : List (Nat × List Nat) := []
def Vg : Nat → Ann
 | 0 => ⟨[0], [5], [], [], [5]⟩
 | 1 => ⟨[0, 4], [5], [], [], [5]⟩
 | 2 => ⟨[2], [5], [], [], [5]⟩
 | 3 => ⟨[2], [5], [], [], [5]⟩
 | _ => ⟨[], [], [], [], []⟩
noncomputable abbrev Jc : Cx := ⟨Tryd.prog, ⟨id, Vk, Vd⟩, Vg⟩
theorem XQ {args : List PV} {r : PV} (ha : args.length = 1) (h : awp Jc V6 (zW Tryd.prog [.tmp 2] r []) (zS args [])) : PC Tryd.prog 100 args r :=
 zL (X := Jc) mixed Tryd.func100 (c := V6) (by kernel_rfl) (by kernel_rfl) (rs := [.tmp 2]) (by kernel_rfl) (by kernel_rfl) (by rw [ha]; decide) h
noncomputable def ab4 : Code := (Tryd.f75.body).getD .skip
def YU : List (Nat × Nf) := [(28, [none, none, some 1, some 2, some 5]), (38, [none, none, some 1, some 2, some 5])]
def YM : List (Nat × List Nat) := []
def YB : Nat → Ann
 | 0 => ⟨[1, 2, 4], [2, 4], [.nrm 4 [none, none, some 1, some 2, some 5]], [], [2, 4]⟩
 | 1 => ⟨[2, 4, 8, 9, 10], [2, 4], [], [], [2, 4]⟩
 | 2 => ⟨[2, 4, 8, 9, 10, 11], [2, 4], [], [], [2, 4]⟩
 | 3 => ⟨[2, 4, 7, 8, 9, 10], [2, 4], [], [], [2, 4]⟩
 | 4 => ⟨[2, 4, 7, 8, 9, 10, 27], [2, 4], [], [], [2, 4]⟩
 | 5 => ⟨[4, 5], [4], [], [], [4]⟩
 | 6 => ⟨[2, 4, 8, 9, 10], [2, 4], [], [], [2, 4]⟩
 | 7 => ⟨[2, 4, 8, 9, 10], [2, 4], [], [], [2, 4]⟩
 | 8 => ⟨[2, 4, 37], [2, 4], [], [], [2, 4]⟩
 | 9 => ⟨[4, 5], [4], [], [], [4]⟩
 | 10 => ⟨[4, 5], [4], [], [], [4]⟩
 | _ => ⟨[], [], [], [], []⟩
noncomputable abbrev abL : Cx := ⟨Tryd.prog, ⟨id, YU, YM⟩, YB⟩
theorem acX {args : List PV} {r : PV} (ha : args.length = 2) (h : awp abL ab4 (zW Tryd.prog [.cell 4 28, .tmp 5] r []) (zS args [])) : PC Tryd.prog 75 args r :=
 zL (X := abL) mixed Tryd.func75 (c := ab4) (by kernel_rfl) (by kernel_rfl) (rs := [.cell 4 28, .tmp 5]) (by kernel_rfl) (by kernel_rfl) (by rw [ha]; decide) h
noncomputable def Ym : Code := (Tryd.f97.body).getD .skip
def Xa : List (Nat × Nf) := [(24, [some 1, none, none]), (59, [some 1, none, none]), (65, [some 1, none, none]), (71, [some 1, none, none])]
def Xf : List (Nat × List Nat) := []
def Xj : Nat → Ann
 | 0 => ⟨[1, 2, 4], [2, 4], [.nrm 4 [some 1, none, none]], [], [2, 4]⟩
 | 1 => ⟨[1, 2, 4, 23], [2, 4], [], [], [2, 4]⟩
 | 2 => ⟨[4, 5], [4], [], [], [4]⟩
 | 3 => ⟨[1, 2, 4, 6], [2, 4, 6, 342], [.K5 6 0 342 1], [], [2, 4, 6, 342]⟩
 | 4 => ⟨[1, 2, 4, 6, 26, 27, 28], [2, 4, 6, 342], [], [], [2, 4, 6, 342]⟩
 | 5 => ⟨[1, 2, 4, 6, 26, 27, 28, 29], [2, 4, 6, 342], [], [], [2, 4, 6, 342]⟩
 | 6 => ⟨[1, 2, 4, 6, 7, 8, 26, 27, 28], [2, 4, 6, 8, 342], [], [], [2, 4, 6, 8, 342]⟩
 | 7 => ⟨[1, 2, 4, 6, 7, 8, 9, 26, 27, 28], [2, 4, 6, 8, 342], [], [], [2, 4, 6, 8, 342]⟩
 | 8 => ⟨[1, 2, 4, 6, 8], [2, 4, 6, 8, 342], [], [], [2, 4, 6, 8, 342]⟩
 | 9 => ⟨[1, 2, 4, 6], [2, 4, 6, 342], [], [], [2, 4, 6, 342]⟩
 | 10 => ⟨[1, 2, 4, 6, 7, 8, 9, 26, 27, 28, 44], [2, 4, 6, 8, 342], [], [], [2, 4, 6, 8, 342]⟩
 | 11 => ⟨[1, 2, 4, 6, 26, 27, 28], [2, 4, 6, 342], [], [], [2, 4, 6, 342]⟩
 | 12 => ⟨[1, 2, 4, 6, 7, 8, 51], [2, 4, 6, 8, 342], [], [], [2, 4, 6, 8, 342]⟩
 | 13 => ⟨[4, 6], [4, 6, 342], [], [], [4, 6, 342]⟩
 | 14 => ⟨[4, 5], [4], [], [], [4]⟩
 | 15 => ⟨[1, 2, 4, 6, 7, 8, 60], [2, 4, 6, 8, 342], [], [], [2, 4, 6, 8, 342]⟩
 | 16 => ⟨[4, 6], [4, 6, 342], [], [], [4, 6, 342]⟩
 | 17 => ⟨[4, 5], [4], [], [], [4]⟩
 | 18 => ⟨[1, 2, 4, 6, 26, 27, 28], [2, 4, 6, 342], [], [], [2, 4, 6, 342]⟩
 | 19 => ⟨[4, 6], [4, 6, 342], [], [], [4, 6, 342]⟩
 | 20 => ⟨[4, 5], [4], [], [], [4]⟩
 | _ => ⟨[], [], [], [], []⟩
noncomputable abbrev Yq : Cx := ⟨Tryd.prog, ⟨id, Xa, Xf⟩, Xj⟩
theorem aa6 {args : List PV} {r : PV} (ha : args.length = 2) (h : awp Yq Ym (zW Tryd.prog [.cell 4 149, .tmp 5] r []) (zS args [])) : PC Tryd.prog 97 args r :=
 zL (X := Yq) mixed Tryd.func97 (c := Ym) (by kernel_rfl) (by kernel_rfl) (rs := [.cell 4 149, .tmp 5]) (by kernel_rfl) (by kernel_rfl) (by rw [ha]; decide) h
noncomputable def abn : Code := (Tryd.f74.body).getD .skip
def YE : List (Nat × Nf) := []
def aaC : List (Nat × List Nat) := [(24, [6]), (25, [6]), (26, []), (27, [6]), (28, [6]), (30, [26, 29])]
def aal : Nat → Ann
 | 0 => ⟨[1, 2], [2], [], [], [2]⟩
 | 1 => ⟨[1, 2, 10], [2], [], [], [2]⟩
 | 2 => ⟨[4, 5], [], [.nrm 4 [some 1]], [], []⟩
 | 3 => ⟨[2, 6, 7], [2, 6], [], [], [2, 6]⟩
 | 4 => ⟨[2, 6, 23], [2, 6], [], [], [2, 6]⟩
 | 5 => ⟨[4, 5], [], [.nrm 4 [some 1]], [], []⟩
 | 6 => ⟨[2, 8], [2, 26], [], [.ren 26 8], [2, 8, 26]⟩
 | 7 => ⟨[7, 8], [8], [], [], [8]⟩
 | 8 => ⟨[4, 5], [8], [], [.ren 8 4], [4, 8]⟩
 | _ => ⟨[], [], [], [], []⟩
noncomputable abbrev abZ : Cx := ⟨Tryd.prog, ⟨id, YE, aaC⟩, aal⟩
theorem adb {args : List PV} {r : PV} (ha : args.length = 2) (h : awp abZ abn (zW Tryd.prog [.tmp 4, .tmp 5] r []) (zS args [])) : PC Tryd.prog 74 args r :=
 zL (X := abZ) mixed Tryd.func74 (c := abn) (by kernel_rfl) (by kernel_rfl) (rs := [.tmp 4, .tmp 5]) (by kernel_rfl) (by kernel_rfl) (by rw [ha]; decide) h
noncomputable def aas : Code := (Tryd.f77.body).getD .skip
def Yk : List (Nat × Nf) := []
def Yo : List (Nat × List Nat) := []
def Yr : Nat → Ann
 | 0 => ⟨[1, 2], [2, 1000], [], [], [2, 1000]⟩
 | 1 => ⟨[3], [1000], [], [], [1000]⟩
 | _ => ⟨[], [], [], [], []⟩
noncomputable abbrev Y1 : Cx := ⟨Tryd.prog, ⟨id, Yk, Yo⟩, Yr⟩
theorem acG {args : List PV} {es es' : List Ent} {r : PV} (ha : args.length = 2) (hl : es'.length = es.length) (he : (es'.all fun e => e.wX es.length) = true) (h : awp Y1 aas (zW Tryd.prog [.tmp 3] r es') (zS args es)) : BC Tryd.prog 77 args es r es' :=
 Qk (X := Y1) mixed Tryd.func77 (c := aas) (by kernel_rfl) (by kernel_rfl) (rs := [.tmp 3]) (by kernel_rfl) (by kernel_rfl) (by rw [ha]; decide) hl (fun e h => List.all_eq_true.1 he e h) h
noncomputable def yf : Code := (Tryd.f76.body).getD .skip
def xO : List (Nat × Nf) := []
def xV : List (Nat × List Nat) := []
def xP : Nat → Ann
 | 0 => ⟨[0, 1], [1000], [], [], [1000]⟩
 | 1 => ⟨[0, 1, 7, 8], [1000], [], [], [1000]⟩
 | 2 => ⟨[0, 1, 7, 8, 9], [1000], [], [], [1000]⟩
 | 3 => ⟨[0, 1, 5, 7, 8], [1000], [], [], [1000]⟩
 | 4 => ⟨[0, 1, 5, 7, 8, 16], [1000], [], [], [1000]⟩
 | 5 => ⟨[4], [1000], [], [], [1000]⟩
 | 6 => ⟨[0, 1, 7, 8], [1000], [], [], [1000]⟩
 | 7 => ⟨[4], [1000], [], [], [1000]⟩
 | _ => ⟨[], [], [], [], []⟩
noncomputable abbrev yg : Cx := ⟨Tryd.prog, ⟨id, xO, xV⟩, xP⟩
theorem QI {args : List PV} {es es' : List Ent} {r : PV} (ha : args.length = 2) (hl : es'.length = es.length) (he : (es'.all fun e => e.wX es.length) = true) (h : awp yg yf (zW Tryd.prog [.tmp 4] r es') (zS args es)) : BC Tryd.prog 76 args es r es' :=
 Qk (X := yg) mixed Tryd.func76 (c := yf) (by kernel_rfl) (by kernel_rfl) (rs := [.tmp 4]) (by kernel_rfl) (by kernel_rfl) (by rw [ha]; decide) hl (fun e h => List.all_eq_true.1 he e h) h
noncomputable def aee : Code := (Tryd.f78.body).getD .skip
def abI : List (Nat × Nf) := [(18, [none, none, some 1, some 2, some 5]), (48, [none, none, none, none, some 5])]
def abB : List (Nat × List Nat) := []
def abX : Nat → Ann
 | 0 => ⟨[1, 3, 5, 6], [3, 5, 6], [.nrm 6 [none, none, some 1, some 2, some 5]], [], [3, 5, 6]⟩
 | 1 => ⟨[1, 3, 5, 6, 9], [3, 5, 6], [], [], [3, 5, 6]⟩
 | 2 => ⟨[1, 3, 5, 6, 9, 17], [3, 5, 6], [], [], [3, 5, 6]⟩
 | 3 => ⟨[6, 7], [6], [], [], [6]⟩
 | 4 => ⟨[1, 3, 5, 6, 22], [3, 5, 6], [], [], [3, 5, 6]⟩
 | 5 => ⟨[6, 7], [6], [], [], [6]⟩
 | 6 => ⟨[1, 3, 5, 6], [3, 5, 6, 26], [], [.ren 26 325], [3, 5, 6, 26, 325]⟩
 | 7 => ⟨[3, 6], [3, 6, 325], [], [], [3, 6, 325]⟩
 | 8 => ⟨[6, 7], [6], [], [], [6]⟩
 | _ => ⟨[], [], [], [], []⟩
noncomputable abbrev aeo : Cx := ⟨Tryd.prog, ⟨id, abI, abB⟩, abX⟩
theorem aeP {args : List PV} {r : PV} (ha : args.length = 3) (h : awp aeo aee (zW Tryd.prog [.cell 6 28, .tmp 7] r []) (zS args [])) : PC Tryd.prog 78 args r :=
 zL (X := aeo) mixed Tryd.func78 (c := aee) (by kernel_rfl) (by kernel_rfl) (rs := [.cell 6 28, .tmp 7]) (by kernel_rfl) (by kernel_rfl) (by rw [ha]; decide) h
noncomputable def ahT : Code := (Tryd.f46.body).getD .skip
def afJ : List (Nat × Nf) := [(24, [none, none, some 1, some 2, some 5]), (37, [none, none, some 1, some 2, some 5]), (58, [none, none, none, some 2, none])]
def afB : List (Nat × List Nat) := []
def afZ : Nat → Ann
 | 0 => ⟨[2, 3, 4], [2, 3, 4], [.nrm 4 [none, none, some 1, some 2, some 5]], [], [2, 3, 4]⟩
 | 1 => ⟨[2, 3, 4, 7, 8], [2, 3, 4], [], [], [2, 3, 4]⟩
 | 2 => ⟨[2, 3, 4, 7, 23], [2, 3, 4], [], [], [2, 3, 4]⟩
 | 3 => ⟨[4, 5, 6], [4], [], [], [4]⟩
 | 4 => ⟨[2, 3, 4, 7, 9], [2, 3, 4, 9], [], [], [2, 3, 4, 9]⟩
 | 5 => ⟨[2, 3, 4, 7, 9, 11], [2, 3, 4, 9], [], [], [2, 3, 4, 9]⟩
 | 6 => ⟨[2, 3, 4, 7, 9, 11, 36], [2, 3, 4, 9], [], [], [2, 3, 4, 9]⟩
 | 7 => ⟨[4, 5, 6], [4], [], [], [4]⟩
 | 8 => ⟨[2, 3, 4, 7, 9, 11, 12], [2, 3, 4, 9], [], [], [2, 3, 4, 9]⟩
 | 9 => ⟨[2, 3, 4, 7, 9, 11, 12], [2, 3, 4, 9, 46], [], [.ren 46 366], [2, 3, 4, 9, 46, 366]⟩
 | 10 => ⟨[2, 4, 7, 9, 12], [2, 4, 9, 366], [], [], [2, 4, 9, 366]⟩
 | 11 => ⟨[4, 12, 13, 14], [4, 13], [], [], [4, 13]⟩
 | 12 => ⟨[4, 5, 6], [4], [], [], [4]⟩
 | _ => ⟨[], [], [], [], []⟩
noncomputable abbrev ahX : Cx := ⟨Tryd.prog, ⟨id, afJ, afB⟩, afZ⟩
theorem aiH {args : List PV} {r : PV} (ha : args.length = 2) (h : awp ahX ahT (zW Tryd.prog [.cell 4 28, .tmp 5, .tmp 6] r []) (zS args [])) : PC Tryd.prog 46 args r :=
 zL (X := ahX) mixed Tryd.func46 (c := ahT) (by kernel_rfl) (by kernel_rfl) (rs := [.cell 4 28, .tmp 5, .tmp 6]) (by kernel_rfl) (by kernel_rfl) (by rw [ha]; decide) h
noncomputable def WE : Code := (Tryd.f113.body).getD .skip
def Wq : List (Nat × Nf) := []
def We : List (Nat × List Nat) := []
def Wd : Nat → Ann
 | 0 => ⟨[0, 1, 2, 6], [1000, 1001], [], [], [1000, 1001]⟩
 | 1 => ⟨[0, 1, 2, 6, 35], [1000, 1001], [], [], [1000, 1001]⟩
 | 2 => ⟨[], [1000, 1001], [], [], [1000, 1001]⟩
 | 3 => ⟨[], [1000, 1001], [], [], [1000, 1001]⟩
 | _ => ⟨[], [], [], [], []⟩
noncomputable abbrev WJ : Cx := ⟨Tryd.prog, ⟨id, Wq, We⟩, Wd⟩
theorem Jh {args : List PV} {es es' : List Ent} {r : PV} (ha : args.length = 3) (hl : es'.length = es.length) (he : (es'.all fun e => e.wX es.length) = true) (h : awp WJ WE (zW Tryd.prog [] r es') (zS args es)) : BC Tryd.prog 113 args es r es' :=
 Qk (X := WJ) mixed Tryd.func113 (c := WE) (by kernel_rfl) (by kernel_rfl) (rs := []) (by kernel_rfl) (by kernel_rfl) (by rw [ha]; decide) hl (fun e h => List.all_eq_true.1 he e h) h
noncomputable def Qf : Code := (Tryd.f114.body).getD .skip
def ZI : List (Nat × Nf) := []
def Zz : List (Nat × List Nat) := []
def Z4 : Nat → Ann
 | 0 => ⟨[0, 1, 2, 3, 4, 8], [8, 1000, 1001], [.nrm 8 [none, none, some 1, some 2, some 5]], [], [8, 1000, 1001]⟩
 | 1 => ⟨[8], [8, 1000, 1001], [.nrm 8 [none, none, none, some 2, some 5]], [], [8, 1000, 1001]⟩
 | _ => ⟨[], [], [], [], []⟩
noncomputable abbrev QC : Cx := ⟨Tryd.prog, ⟨id, ZI, Zz⟩, Z4⟩
theorem Vw {args : List PV} {es es' : List Ent} {r : PV} (ha : args.length = 5) (hl : es'.length = es.length) (he : (es'.all fun e => e.wX es.length) = true) (h : awp QC Qf (zW Tryd.prog [.cell 8 28] r es') (zS args es)) : BC Tryd.prog 114 args es r es' :=
 Qk (X := QC) mixed Tryd.func114 (c := Qf) (by kernel_rfl) (by kernel_rfl) (rs := [.cell 8 28]) (by kernel_rfl) (by kernel_rfl) (by rw [ha]; decide) hl (fun e h => List.all_eq_true.1 he e h) h
noncomputable def WB : Code := (Tryd.f101.body).getD .skip
def QT : List (Nat × Nf) := []
def Q5 : List (Nat × List Nat) := [(69, [4]), (70, [4]), (71, [4, 7, 999999]), (76, [4, 7, 999999]), (79, [7]), (81, [4]), (82, [4]), (83, [4, 7, 999999])]
def QU : Nat → Ann
 | 0 => ⟨[0, 2, 4], [4, 1000, 1001], [], [], [4, 1000, 1001]⟩
 | 1 => ⟨[0, 2, 4, 7], [4, 7, 1000, 1001], [], [], [4, 7, 1000, 1001]⟩
 | 2 => ⟨[0, 2, 4, 7, 8], [4, 7, 1000, 1001], [], [], [4, 7, 1000, 1001]⟩
 | 3 => ⟨[0, 2, 4, 7, 8, 9], [4, 7, 1000, 1001], [], [], [4, 7, 1000, 1001]⟩
 | 4 => ⟨[0, 2, 4, 7, 8, 9, 10, 11], [4, 7, 1000, 1001], [], [], [4, 7, 1000, 1001]⟩
 | 5 => ⟨[0, 2, 4, 7, 8, 9, 10, 55], [4, 7, 1000, 1001], [], [], [4, 7, 1000, 1001]⟩
 | 6 => ⟨[6], [57, 1000, 1001], [], [.ren 57 6], [6, 57, 1000, 1001]⟩
 | 7 => ⟨[4, 7, 8, 9, 10], [4, 7, 1000, 1001], [], [], [4, 7, 1000, 1001]⟩
 | 8 => ⟨[4, 7, 8, 9, 10, 12], [4, 7, 1000, 1001], [], [], [4, 7, 1000, 1001]⟩
 | 9 => ⟨[6], [84, 1000, 1001], [], [.ren 84 6], [6, 84, 1000, 1001]⟩
 | _ => ⟨[], [], [], [], []⟩
noncomputable abbrev WA : Cx := ⟨Tryd.prog, ⟨id, QT, Q5⟩, QU⟩
theorem Jg {args : List PV} {es es' : List Ent} {r : PV} (ha : args.length = 3) (hl : es'.length = es.length) (he : (es'.all fun e => e.wX es.length) = true) (h : awp WA WB (zW Tryd.prog [.tmp 6] r es') (zS args es)) : BC Tryd.prog 101 args es r es' :=
 Qk (X := WA) mixed Tryd.func101 (c := WB) (by kernel_rfl) (by kernel_rfl) (rs := [.tmp 6]) (by kernel_rfl) (by kernel_rfl) (by rw [ha]; decide) hl (fun e h => List.all_eq_true.1 he e h) h
noncomputable def afR : Code := (Tryd.f82.body).getD .skip
def ad7 : List (Nat × Nf) := []
def aes : List (Nat × List Nat) := []
def aeg : Nat → Ann
 | 0 => ⟨[0], [], [], [], []⟩
 | 1 => ⟨[0, 3], [3], [.thaw 3 3 5], [], [3]⟩
 | 2 => ⟨[3, 7, 8, 9], [3], [], [], [3]⟩
 | 3 => ⟨[3, 7, 8, 9, 10], [3], [], [], [3]⟩
 | 4 => ⟨[3, 5, 7, 8, 9], [3, 5], [], [], [3, 5]⟩
 | 5 => ⟨[3, 5, 6, 7, 8, 9], [3, 5], [], [], [3, 5]⟩
 | 6 => ⟨[3, 7, 8, 9], [3], [], [], [3]⟩
 | 7 => ⟨[3, 5, 6, 7, 8, 9, 20], [3, 5], [], [], [3, 5]⟩
 | 8 => ⟨[3, 5, 6, 7, 8, 9, 28], [3, 5], [], [], [3, 5]⟩
 | 9 => ⟨[3, 5, 6, 7, 8, 9], [3, 5], [], [], [3, 5]⟩
 | 10 => ⟨[3, 7, 8, 9], [3], [], [], [3]⟩
 | 11 => ⟨[3, 7, 8, 9], [3], [], [], [3]⟩
 | 12 => ⟨[2], [3], [], [.ren 3 2], [2, 3]⟩
 | _ => ⟨[], [], [], [], []⟩
noncomputable abbrev afS : Cx := ⟨Tryd.prog, ⟨id, ad7, aes⟩, aeg⟩
theorem agm {args : List PV} {r : PV} (ha : args.length = 1) (h : awp afS afR (zW Tryd.prog [.tmp 2] r []) (zS args [])) : PC Tryd.prog 82 args r :=
 zL (X := afS) mixed Tryd.func82 (c := afR) (by kernel_rfl) (by kernel_rfl) (rs := [.tmp 2]) (by kernel_rfl) (by kernel_rfl) (by rw [ha]; decide) h
noncomputable def WI : Code := (Tryd.f79.body).getD .skip
def QZ : List (Nat × Nf) := []
def Wl : List (Nat × List Nat) := []
def Q0 : Nat → Ann
 | 0 => ⟨[0, 1, 2], [1000, 1001], [], [], [1000, 1001]⟩
 | 1 => ⟨[0, 1, 2, 7], [7, 1000, 1001], [.thaw 7 7 5], [], [7, 1000, 1001]⟩
 | 2 => ⟨[0, 2, 7, 11, 12, 13], [7, 1000, 1001], [], [], [7, 1000, 1001]⟩
 | 3 => ⟨[0, 2, 7, 11, 12, 13, 14], [7, 1000, 1001], [], [], [7, 1000, 1001]⟩
 | 4 => ⟨[0, 2, 7, 9, 11, 12, 13], [7, 9, 1000, 1001], [], [], [7, 9, 1000, 1001]⟩
 | 5 => ⟨[0, 2, 7, 9, 10, 11, 12, 13], [7, 9, 1000, 1001], [], [], [7, 9, 1000, 1001]⟩
 | 6 => ⟨[0, 2, 7, 9, 10, 11, 12, 13, 21], [7, 9, 1000, 1001], [], [], [7, 9, 1000, 1001]⟩
 | 7 => ⟨[0, 2, 7, 10, 11, 12, 13], [7, 1000, 1001], [], [], [7, 1000, 1001]⟩
 | 8 => ⟨[0, 2, 7, 9, 10, 11, 12, 13], [7, 9, 1000, 1001], [], [], [7, 9, 1000, 1001]⟩
 | 9 => ⟨[0, 2, 7, 10, 11, 12, 13], [7, 1000, 1001], [], [], [7, 1000, 1001]⟩
 | 10 => ⟨[0, 2, 7, 11, 12, 13], [7, 1000, 1001], [], [], [7, 1000, 1001]⟩
 | 11 => ⟨[0, 2, 7, 11, 12, 13], [7, 1000, 1001], [], [], [7, 1000, 1001]⟩
 | 12 => ⟨[6], [1000, 1001], [], [], [1000, 1001]⟩
 | _ => ⟨[], [], [], [], []⟩
noncomputable abbrev WH : Cx := ⟨Tryd.prog, ⟨id, QZ, Wl⟩, Q0⟩
theorem Ji {args : List PV} {es es' : List Ent} {r : PV} (ha : args.length = 3) (hl : es'.length = es.length) (he : (es'.all fun e => e.wX es.length) = true) (h : awp WH WI (zW Tryd.prog [.tmp 6] r es') (zS args es)) : BC Tryd.prog 79 args es r es' :=
 Qk (X := WH) mixed Tryd.func79 (c := WI) (by kernel_rfl) (by kernel_rfl) (rs := [.tmp 6]) (by kernel_rfl) (by kernel_rfl) (by rw [ha]; decide) hl (fun e h => List.all_eq_true.1 he e h) h
noncomputable def adT : Code := (Tryd.f47.body).getD .skip
def abd : List (Nat × Nf) := [(14, [none, none, some 1, some 2, some 5])]
def ab3 : List (Nat × List Nat) := [(23, [2]), (25, [17]), (26, [17]), (27, [17]), (500004, [4])]
def abu : Nat → Ann
 | 0 => ⟨[2, 3, 4], [2, 3, 4], [.nrm 4 [none, none, some 1, some 2, some 5]], [], [2, 3, 4]⟩
 | 1 => ⟨[2, 3, 4, 13], [2, 3, 4], [], [], [2, 3, 4]⟩
 | 2 => ⟨[4, 5, 6], [4], [.nrm 5 [some 3]], [], [4]⟩
 | 3 => ⟨[2, 4, 7], [2, 4, 17, 425], [.K5 17 6 425 3], [], [2, 4, 17, 425]⟩
 | 4 => ⟨[2, 4, 7], [2, 4, 17, 425], [], [], [2, 4, 17, 425]⟩
 | 5 => ⟨[4, 5, 6], [4, 425], [], [.ren 425 5], [4, 5, 425]⟩
 | _ => ⟨[], [], [], [], []⟩
noncomputable abbrev ad6 : Cx := ⟨Tryd.prog, ⟨id, abd, ab3⟩, abu⟩
theorem aey {args : List PV} {r : PV} (ha : args.length = 2) (h : awp ad6 adT (zW Tryd.prog [.cell 4 28, .tmp 5, .tmp 6] r []) (zS args [])) : PC Tryd.prog 47 args r :=
 zL (X := ad6) mixed Tryd.func47 (c := adT) (by kernel_rfl) (by kernel_rfl) (rs := [.cell 4 28, .tmp 5, .tmp 6]) (by kernel_rfl) (by kernel_rfl) (by rw [ha]; decide) h
noncomputable def adr : Code := (Tryd.f48.body).getD .skip
def aby : List (Nat × Nf) := [(26, [none, none, some 1, some 2, none])]
def abm : List (Nat × List Nat) := []
def abb : Nat → Ann
 | 0 => ⟨[1], [1], [], [], [1]⟩
 | 1 => ⟨[1, 3], [1], [], [], [1]⟩
 | 2 => ⟨[1, 3, 21], [1], [], [], [1]⟩
 | 3 => ⟨[1, 3, 21, 22], [1], [], [], [1]⟩
 | 4 => ⟨[1, 3, 4], [1], [], [], [1]⟩
 | 5 => ⟨[2], [], [], [], []⟩
 | 6 => ⟨[1, 3, 21, 41], [1], [], [], [1]⟩
 | 7 => ⟨[2], [], [], [], []⟩
 | 8 => ⟨[1, 3, 21, 72], [1], [], [], [1]⟩
 | 9 => ⟨[1, 3, 72], [1], [], [], [1]⟩
 | 10 => ⟨[2], [], [], [], []⟩
 | 11 => ⟨[2], [], [], [], []⟩
 | _ => ⟨[], [], [], [], []⟩
noncomputable abbrev adY : Cx := ⟨Tryd.prog, ⟨id, aby, abm⟩, abb⟩
theorem aeT {args : List PV} {r : PV} (ha : args.length = 1) (h : awp adY adr (zW Tryd.prog [.tmp 2] r []) (zS args [])) : PC Tryd.prog 48 args r :=
 zL (X := adY) mixed Tryd.func48 (c := adr) (by kernel_rfl) (by kernel_rfl) (rs := [.tmp 2]) (by kernel_rfl) (by kernel_rfl) (by rw [ha]; decide) h
noncomputable def Jo : Code := (Tryd.f96.body).getD .skip
def VT : List (Nat × Nf) := [(4, [some 1, none, none, some 1, some 2, some 5, none, none])]
def VL : List (Nat × List Nat) := []
def VG : Nat → Ann
 | 0 => ⟨[1, 3], [1000, 1001], [], [], [1000, 1001]⟩
 | 1 => ⟨[], [1000, 1001], [], [], [1000, 1001]⟩
 | _ => ⟨[], [], [], [], []⟩
noncomputable abbrev JA : Cx := ⟨Tryd.prog, ⟨id, VT, VL⟩, VG⟩
theorem Yt {args : List PV} {es es' : List Ent} {r : PV} (ha : args.length = 2) (hl : es'.length = es.length) (he : (es'.all fun e => e.wX es.length) = true) (h : awp JA Jo (zW Tryd.prog [] r es') (zS args es)) : BD Tryd.prog 96 args es r es' :=
 aq6 (X := JA) mixed Tryd.func96 (c := Jo) (by kernel_rfl) (rs := []) (by kernel_rfl) (by kernel_rfl) (by rw [ha]; decide) hl (fun e h => List.all_eq_true.1 he e h) h
noncomputable def VJ : Code := (Tryd.f98.body).getD .skip
def Ve : List (Nat × Nf) := []
def K3 : List (Nat × List Nat) := []
def K6 : Nat → Ann
 | 0 => ⟨[0, 1], [], [], [], []⟩
 | 1 => ⟨[0, 1, 10], [], [], [], []⟩
 | 2 => ⟨[4], [], [], [], []⟩
 | 3 => ⟨[0, 1, 12, 13], [], [], [], []⟩
 | 4 => ⟨[0, 1, 12, 13, 14], [], [], [], []⟩
 | 5 => ⟨[0, 1, 5, 12, 13], [], [], [], []⟩
 | 6 => ⟨[0, 1, 12, 13, 24], [], [], [], []⟩
 | 7 => ⟨[4], [], [], [], []⟩
 | 8 => ⟨[0, 1, 12, 13], [], [], [], []⟩
 | 9 => ⟨[4], [], [], [], []⟩
 | _ => ⟨[], [], [], [], []⟩
noncomputable abbrev V9 : Cx := ⟨Tryd.prog, ⟨id, Ve, K3⟩, K6⟩
theorem X4 {args : List PV} {r : PV} (ha : args.length = 2) (h : awp V9 VJ (zW Tryd.prog [.tmp 4] r []) (zS args [])) : PC Tryd.prog 98 args r :=
 zL (X := V9) mixed Tryd.func98 (c := VJ) (by kernel_rfl) (by kernel_rfl) (rs := [.tmp 4]) (by kernel_rfl) (by kernel_rfl) (by rw [ha]; decide) h
noncomputable def abW : Code := (Tryd.f99.body).getD .skip
def aau : List (Nat × Nf) := []
def aaG : List (Nat × List Nat) := []
def aav : Nat → Ann
 | 0 => ⟨[1, 2], [2], [], [], [2]⟩
 | 1 => ⟨[1, 2, 7], [2], [], [], [2]⟩
 | 2 => ⟨[1, 2, 7, 18], [2], [], [], [2]⟩
 | 3 => ⟨[4, 5], [], [], [], []⟩
 | 4 => ⟨[1, 2, 8], [2], [], [], [2]⟩
 | 5 => ⟨[2, 8, 20, 21, 22], [2], [], [], [2]⟩
 | 6 => ⟨[2, 8, 20, 21, 22, 23], [2], [], [], [2]⟩
 | 7 => ⟨[2, 8, 10, 20, 21, 22], [2], [], [], [2]⟩
 | 8 => ⟨[2, 8, 10, 20, 21, 22], [2], [], [], [2]⟩
 | 9 => ⟨[2, 8, 20, 21, 22], [2], [], [], [2]⟩
 | 10 => ⟨[2, 8, 20, 21, 22], [2], [], [], [2]⟩
 | 11 => ⟨[4, 5], [], [], [], []⟩
 | _ => ⟨[], [], [], [], []⟩
noncomputable abbrev abl : Cx := ⟨Tryd.prog, ⟨id, aau, aaG⟩, aav⟩
theorem ac5 {args : List PV} {r : PV} (ha : args.length = 2) (h : awp abl abW (zW Tryd.prog [.tmp 4, .tmp 5] r []) (zS args [])) : PC Tryd.prog 99 args r :=
 zL (X := abl) mixed Tryd.func99 (c := abW) (by kernel_rfl) (by kernel_rfl) (rs := [.tmp 4, .tmp 5]) (by kernel_rfl) (by kernel_rfl) (by rw [ha]; decide) h
def aaE : List (Nat × Nf) := []
def aaa : List (Nat × List Nat) := [(31, [1001]), (32, [1000]), (42, [1001]), (43, [1000]), (71, [8]), (72, [8]), (73, [12]), (81, [1000]), (500006, [1001]), (500007, [1000])]
def YK : Nat → Ann
 | 0 => ⟨[1, 2, 3, 6, 7], [3, 6, 7], [.nrm 6 [some 1, none, none, some 1, some 2, some 5, none, none]], [], [3, 6, 7]⟩
 | 1 => ⟨[1, 2, 3, 6, 7], [], [], [], []⟩
 | 2 => ⟨[1, 2, 3, 6, 7, 21], [3, 1000, 1001], [], [], [3, 1000, 1001]⟩
 | 3 => ⟨[6, 7], [1000, 1001], [], [], [1000, 1001]⟩
 | 4 => ⟨[1, 2, 3, 6, 7, 8], [3, 8, 1000, 1001], [], [], [3, 8, 1000, 1001]⟩
 | 5 => ⟨[1, 2, 3, 6, 7, 8, 30], [3, 8, 1000, 1001], [], [], [3, 8, 1000, 1001]⟩
 | 6 => ⟨[6, 7], [1000, 1001], [], [], [1000, 1001]⟩
 | 7 => ⟨[1, 2, 3, 6, 7, 8, 9], [3, 8, 9, 1000, 1001], [], [], [3, 8, 9, 1000, 1001]⟩
 | 8 => ⟨[1, 2, 3, 6, 7, 8, 9, 39], [3, 8, 9, 1000, 1001], [], [], [3, 8, 9, 1000, 1001]⟩
 | 9 => ⟨[6, 7], [1000, 1001], [], [], [1000, 1001]⟩
 | 10 => ⟨[1, 2, 3, 6, 7, 8, 9, 44], [3, 8, 9, 1000, 1001], [], [], [3, 8, 9, 1000, 1001]⟩
 | 11 => ⟨[6, 7], [1000, 1001], [], [], [1000, 1001]⟩
 | 12 => ⟨[1, 2, 3, 6, 7, 8, 49], [3, 8, 1000, 1001], [], [], [3, 8, 1000, 1001]⟩
 | 13 => ⟨[6, 7], [1000, 1001], [], [], [1000, 1001]⟩
 | 14 => ⟨[1, 2, 3, 6, 7, 8, 10], [3, 8, 1000, 1001], [], [], [3, 8, 1000, 1001]⟩
 | 15 => ⟨[1, 2, 6, 7, 8, 10, 12], [8, 12, 1000, 1001], [], [], [8, 12, 1000, 1001]⟩
 | 16 => ⟨[6, 7], [1000, 1001], [], [], [1000, 1001]⟩
 | _ => ⟨[], [], [], [], []⟩
noncomputable abbrev JQ : Cx := ⟨Tryd.prog, ⟨id, aaE, aaa⟩, YK⟩
noncomputable def aae : Code := match Tryd.f72.body with | some (.seq c _) => c | _ => .skip
noncomputable def aar : Code := match Tryd.f72.body with | some (.seq _ (.seq _ c)) => c | _ => .skip
noncomputable def agW : Oper := match Tryd.f72.body with | some (.seq _ (.seq (.region _ ops _) _)) => (ops[0]?).getD ⟨none, .move (.tmp 0), 0, "", #[], none⟩ | _ => ⟨none, .move (.tmp 0), 0, "", #[], none⟩
noncomputable def ahQ : Oper := match Tryd.f72.body with | some (.seq _ (.seq (.region _ ops _) _)) => (ops[1]?).getD ⟨none, .move (.tmp 0), 0, "", #[], none⟩ | _ => ⟨none, .move (.tmp 0), 0, "", #[], none⟩
theorem acP {args : List PV} {r : PV} (ha : args.length = 3) (h : awp JQ aae (midD JQ 96 13 7 6 aar [.cell 6 123, .cell 7 31] r) (zS args [])) : PC Tryd.prog 72 args r :=
 aoh (X := JQ) (id := 1) (o1 := agW) (o2 := ahQ) (c0 := aae) (c1 := aar) mixed Tryd.func72 (by kernel_rfl) ⟨by rfl, by rfl, by rfl⟩ ⟨⟨_, by rfl⟩, by rfl, by rfl⟩ (by kernel_rfl) ⟨_, Tryd.func96, by kernel_rfl, by kernel_rfl⟩ (rs := [.cell 6 123, .cell 7 31]) (by kernel_rfl) (by kernel_rfl) (by kernel_rfl) (by rw [ha]; decide) (by decide) h
noncomputable def abh : Code := (Tryd.f73.body).getD .skip
def YD : List (Nat × Nf) := []
def aai : List (Nat × List Nat) := [(44, []), (45, []), (48, []), (49, []), (75, []), (76, []), (79, []), (80, []), (81, [11]), (82, [9]), (83, [9]), (500081, [11]), (500083, [9])]
def aad : Nat → Ann
 | 0 => ⟨[0, 1], [], [], [], []⟩
 | 1 => ⟨[0, 1, 19], [], [], [], []⟩
 | 2 => ⟨[4, 5, 6], [], [.nrm 4 [some 5], .nrm 5 [some 5]], [], []⟩
 | 3 => ⟨[0, 1, 7], [], [], [], []⟩
 | 4 => ⟨[0, 1, 7, 32], [], [], [], []⟩
 | 5 => ⟨[0, 1, 7], [], [], [], []⟩
 | 6 => ⟨[0, 1, 7], [], [], [], []⟩
 | 7 => ⟨[0, 1, 7, 8, 9], [45, 49], [], [.ren 45 8, .ren 49 9], [8, 9, 45, 49]⟩
 | 8 => ⟨[0, 1, 7, 8, 9, 50], [8, 9], [], [], [8, 9]⟩
 | 9 => ⟨[4, 5, 6], [8, 9], [], [.ren 8 4, .ren 9 5], [4, 5, 8, 9]⟩
 | 10 => ⟨[0, 1, 7, 8, 9, 55], [8, 9], [], [], [8, 9]⟩
 | 11 => ⟨[4, 5, 6], [], [.nrm 4 [some 5], .nrm 5 [some 5]], [], []⟩
 | 12 => ⟨[0, 1, 7, 8, 9, 10], [8, 9], [], [], [8, 9]⟩
 | 13 => ⟨[1, 8, 9, 10, 11], [8, 9, 11], [], [], [8, 9, 11]⟩
 | 14 => ⟨[8, 9, 11], [8, 9, 11], [], [], [8, 9, 11]⟩
 | 15 => ⟨[4, 5, 6], [8, 9], [], [.ren 8 4, .ren 9 5], [4, 5, 8, 9]⟩
 | _ => ⟨[], [], [], [], []⟩
noncomputable abbrev ab5 : Cx := ⟨Tryd.prog, ⟨id, YD, aai⟩, aad⟩
theorem acQ {args : List PV} {r : PV} (ha : args.length = 2) (h : awp ab5 abh (zW Tryd.prog [.tmp 4, .tmp 5, .tmp 6] r []) (zS args [])) : PC Tryd.prog 73 args r :=
 zL (X := ab5) mixed Tryd.func73 (c := abh) (by kernel_rfl) (by kernel_rfl) (rs := [.tmp 4, .tmp 5, .tmp 6]) (by kernel_rfl) (by kernel_rfl) (by rw [ha]; decide) h
noncomputable def ZU : Code := (Tryd.f83.body).getD .skip
def Zk : List (Nat × Nf) := []
def Zq : List (Nat × List Nat) := []
def Zp : Nat → Ann
 | 0 => ⟨[0], [], [], [], []⟩
 | 1 => ⟨[0, 3], [], [], [], []⟩
 | 2 => ⟨[0, 3, 9, 10, 11], [], [], [], []⟩
 | 3 => ⟨[0, 3, 9, 10, 11, 12], [], [], [], []⟩
 | 4 => ⟨[0, 3, 5, 9, 10, 11], [], [], [], []⟩
 | 5 => ⟨[0, 3, 9, 10, 11], [], [], [], []⟩
 | 6 => ⟨[0, 3, 9, 10, 11, 20], [], [], [], []⟩
 | 7 => ⟨[0, 3, 9, 10, 11], [], [], [], []⟩
 | 8 => ⟨[0, 3, 9, 10, 11], [], [], [], []⟩
 | 9 => ⟨[0, 6], [24], [], [.ren 24 6], [6, 24]⟩
 | 10 => ⟨[6, 25, 26, 27], [6], [], [], [6]⟩
 | 11 => ⟨[6, 25, 26, 27, 28], [6], [], [], [6]⟩
 | 12 => ⟨[6, 8, 25, 26, 27], [6], [], [], [6]⟩
 | 13 => ⟨[6, 25, 26, 27], [6], [], [], [6]⟩
 | 14 => ⟨[6, 25, 26, 27], [6], [], [], [6]⟩
 | 15 => ⟨[2], [6], [], [.ren 6 2], [2, 6]⟩
 | _ => ⟨[], [], [], [], []⟩
noncomputable abbrev ZQ : Cx := ⟨Tryd.prog, ⟨id, Zk, Zq⟩, Zp⟩
theorem KU {args : List PV} {r : PV} (ha : args.length = 1) (h : awp ZQ ZU (zW Tryd.prog [.tmp 2] r []) (zS args [])) : PC Tryd.prog 83 args r :=
 zL (X := ZQ) mixed Tryd.func83 (c := ZU) (by kernel_rfl) (by kernel_rfl) (rs := [.tmp 2]) (by kernel_rfl) (by kernel_rfl) (by rw [ha]; decide) h
noncomputable def afx : Code := (Tryd.f49.body).getD .skip
def aep : List (Nat × Nf) := [(33, [none, none, some 1, some 2, none]), (37, [none, none, some 1, some 2, some 5]), (40, [none, none, some 1, some 2, some 5]), (83, [none, none, some 1, some 2, some 5])]
def aeb : List (Nat × List Nat) := []
def adi : Nat → Ann
 | 0 => ⟨[1, 2, 3, 4, 8], [4, 8], [.nrm 8 [none, none, some 1, some 2, some 5]], [], [4, 8]⟩
 | 1 => ⟨[3, 4, 8, 10, 11], [4, 8, 10], [], [], [4, 8, 10]⟩
 | 2 => ⟨[3, 4, 8, 10, 11, 36], [4, 8, 10], [], [], [4, 8, 10]⟩
 | 3 => ⟨[8, 9], [8], [], [], [8]⟩
 | 4 => ⟨[3, 4, 8, 10, 11, 39], [4, 8, 10], [], [], [4, 8, 10]⟩
 | 5 => ⟨[8, 9], [8], [], [], [8]⟩
 | 6 => ⟨[3, 4, 8, 10, 12], [4, 8, 10], [], [], [4, 8, 10]⟩
 | 7 => ⟨[3, 4, 8, 10, 12, 16], [4, 8, 10], [], [], [4, 8, 10]⟩
 | 8 => ⟨[4, 8, 10], [4, 8, 10], [], [], [4, 8, 10]⟩
 | 9 => ⟨[8, 18], [8, 18], [], [], [8, 18]⟩
 | 10 => ⟨[8, 18, 20], [8, 18], [], [], [8, 18]⟩
 | 11 => ⟨[8, 18, 20, 82], [8, 18], [], [], [8, 18]⟩
 | 12 => ⟨[8, 9], [8], [], [], [8]⟩
 | 13 => ⟨[8, 9], [8], [], [], [8]⟩
 | _ => ⟨[], [], [], [], []⟩
noncomputable abbrev af0 : Cx := ⟨Tryd.prog, ⟨id, aep, aeb⟩, adi⟩
theorem agt {args : List PV} {r : PV} (ha : args.length = 4) (h : awp af0 afx (zW Tryd.prog [.cell 8 28, .tmp 9] r []) (zS args [])) : PC Tryd.prog 49 args r :=
 zL (X := af0) mixed Tryd.func49 (c := afx) (by kernel_rfl) (by kernel_rfl) (rs := [.cell 8 28, .tmp 9]) (by kernel_rfl) (by kernel_rfl) (by rw [ha]; decide) h
noncomputable def acV : Code := (Tryd.f17.body).getD .skip
def abN : List (Nat × Nf) := [(16, [none, none, some 1, some 2, some 5]), (26, [none, none, some 1, some 2, some 5])]
def abx : List (Nat × List Nat) := []
def abF : Nat → Ann
 | 0 => ⟨[2, 3, 4], [2, 3, 4], [.nrm 4 [none, none, some 1, some 2, some 5]], [], [2, 3, 4]⟩
 | 1 => ⟨[2, 3, 4, 12], [2, 3, 4], [], [], [2, 3, 4]⟩
 | 2 => ⟨[4, 5], [4], [], [], [4]⟩
 | 3 => ⟨[2, 3, 4, 17], [2, 3, 4], [], [], [2, 3, 4]⟩
 | 4 => ⟨[4, 5], [4], [], [], [4]⟩
 | 5 => ⟨[2, 3, 4, 27], [2, 3, 4], [], [], [2, 3, 4]⟩
 | 6 => ⟨[4, 5], [4], [], [], [4]⟩
 | 7 => ⟨[2, 3, 4, 41], [2, 3, 4], [], [], [2, 3, 4]⟩
 | 8 => ⟨[4, 6, 8], [4, 6], [], [], [4, 6]⟩
 | 9 => ⟨[4, 5], [4], [], [], [4]⟩
 | 10 => ⟨[4, 9, 11], [4, 9], [], [], [4, 9]⟩
 | 11 => ⟨[4, 5], [4], [], [], [4]⟩
 | _ => ⟨[], [], [], [], []⟩
noncomputable abbrev adS : Cx := ⟨Tryd.prog, ⟨id, abN, abx⟩, abF⟩
theorem afs {args : List PV} {r : PV} (ha : args.length = 2) (h : awp adS acV (zW Tryd.prog [.cell 4 28, .tmp 5] r []) (zS args [])) : PC Tryd.prog 17 args r :=
 zL (X := adS) mixed Tryd.func17 (c := acV) (by kernel_rfl) (by kernel_rfl) (rs := [.cell 4 28, .tmp 5]) (by kernel_rfl) (by kernel_rfl) (by rw [ha]; decide) h
noncomputable def ag8 : Code := (Tryd.f14.body).getD .skip
def af8 : List (Nat × Nf) := [(23, [none, none, some 1, some 2, some 5])]
def afA : List (Nat × List Nat) := []
def af7 : Nat → Ann
 | 0 => ⟨[1, 2, 4], [2, 4], [.nrm 4 [none, none, some 1, some 2, some 5]], [], [2, 4]⟩
 | 1 => ⟨[1, 2, 4], [2, 4], [], [], [2, 4]⟩
 | 2 => ⟨[2, 4, 9, 10, 11], [2, 4], [], [], [2, 4]⟩
 | 3 => ⟨[2, 4, 9, 10, 11, 12], [2, 4], [], [], [2, 4]⟩
 | 4 => ⟨[2, 4, 8, 9, 10, 11], [2, 4, 8], [], [], [2, 4, 8]⟩
 | 5 => ⟨[2, 4, 6, 9, 10, 11], [2, 4], [], [], [2, 4]⟩
 | 6 => ⟨[2, 4, 6, 9, 10, 11, 22], [2, 4], [], [], [2, 4]⟩
 | 7 => ⟨[4, 5], [4], [], [], [4]⟩
 | 8 => ⟨[2, 4, 9, 10, 11], [2, 4], [], [], [2, 4]⟩
 | 9 => ⟨[4, 5], [4], [], [], [4]⟩
 | _ => ⟨[], [], [], [], []⟩
noncomputable abbrev ahl : Cx := ⟨Tryd.prog, ⟨id, af8, afA⟩, af7⟩
theorem aiy {args : List PV} {r : PV} (ha : args.length = 2) (h : awp ahl ag8 (zW Tryd.prog [.cell 4 28, .tmp 5] r []) (zS args [])) : PC Tryd.prog 14 args r :=
 zL (X := ahl) mixed Tryd.func14 (c := ag8) (by kernel_rfl) (by kernel_rfl) (rs := [.cell 4 28, .tmp 5]) (by kernel_rfl) (by kernel_rfl) (by rw [ha]; decide) h
noncomputable def Q4 : Code := (Tryd.f30.body).getD .skip
def Qx : List (Nat × Nf) := [(64, [none, none, none, some 5, none, none]), (69, [none, none, none, some 5, none, none]), (72, [none, none, some 1, some 2, some 5])]
def Qv : List (Nat × List Nat) := []
def Qr : Nat → Ann
 | 0 => ⟨[1, 2, 4], [2, 4], [.nrm 4 [none, none, some 1, some 2, some 5]], [], [2, 4]⟩
 | 1 => ⟨[1, 2, 4, 5], [2, 4], [], [], [2, 4]⟩
 | 2 => ⟨[1, 2, 4, 5, 20], [2, 4], [], [], [2, 4]⟩
 | 3 => ⟨[1, 2, 4, 5], [2, 4], [], [], [2, 4]⟩
 | 4 => ⟨[1, 2, 4, 5, 6], [2, 4], [], [], [2, 4]⟩
 | 5 => ⟨[1, 2, 4, 5, 6, 7], [2, 4], [], [], [2, 4]⟩
 | 6 => ⟨[1, 2, 4, 5, 7, 8], [2, 4], [], [], [2, 4]⟩
 | 7 => ⟨[1, 2, 4, 5, 7, 8, 9], [2, 4, 9], [], [], [2, 4, 9]⟩
 | 8 => ⟨[1, 2, 4, 5, 7, 8, 9, 60], [2, 4, 9], [], [], [2, 4, 9]⟩
 | 9 => ⟨[1, 2, 4, 5, 7, 8, 9, 60, 61], [2, 4, 9], [], [], [2, 4, 9]⟩
 | 10 => ⟨[1, 2, 4, 5, 9], [2, 4, 9], [], [], [2, 4, 9]⟩
 | 11 => ⟨[1, 2, 4, 5, 7, 8, 9, 60, 65], [2, 4, 9], [], [], [2, 4, 9]⟩
 | 12 => ⟨[1, 2, 4, 5, 9], [2, 4, 9], [], [], [2, 4, 9]⟩
 | 13 => ⟨[1, 2, 4, 5, 9, 70], [2, 4, 9], [], [], [2, 4, 9]⟩
 | 14 => ⟨[1, 2, 4, 5, 9], [2, 4, 9], [.nrm 9 [none, none, none, some 5, none, none]], [], [2, 4, 9]⟩
 | 15 => ⟨[1, 2, 4, 5, 10, 11], [2, 4, 10], [], [], [2, 4, 10]⟩
 | 16 => ⟨[1, 2, 4, 5, 10, 82], [2, 4, 10], [], [], [2, 4, 10]⟩
 | 17 => ⟨[1, 2, 4, 5], [2, 4], [], [], [2, 4]⟩
 | 18 => ⟨[4], [4], [], [], [4]⟩
 | _ => ⟨[], [], [], [], []⟩
noncomputable abbrev QQ : Cx := ⟨Tryd.prog, ⟨id, Qx, Qv⟩, Qr⟩
theorem Ja {args : List PV} {r : PV} (ha : args.length = 2) (h : awp QQ Q4 (zW Tryd.prog [.cell 4 28] r []) (zS args [])) : PC Tryd.prog 30 args r :=
 zL (X := QQ) mixed Tryd.func30 (c := Q4) (by kernel_rfl) (by kernel_rfl) (rs := [.cell 4 28]) (by kernel_rfl) (by kernel_rfl) (by rw [ha]; decide) h
noncomputable def ZO : Code := (Tryd.f7.body).getD .skip
def Zn : List (Nat × Nf) := []
def Zm : List (Nat × List Nat) := []
def Zr : Nat → Ann
 | 0 => ⟨[0, 1, 2], [], [], [], []⟩
 | 1 => ⟨[0, 1, 2, 7], [], [], [], []⟩
 | 2 => ⟨[0, 1, 2, 23], [], [], [], []⟩
 | 3 => ⟨[6], [], [], [], []⟩
 | 4 => ⟨[1, 2, 8], [8], [], [], [8]⟩
 | 5 => ⟨[2, 8, 9], [8, 9], [], [], [8, 9]⟩
 | 6 => ⟨[8, 9, 10], [8, 9, 10], [], [], [8, 9, 10]⟩
 | 7 => ⟨[8, 9, 10, 11, 12], [8, 9, 10], [], [], [8, 9, 10]⟩
 | 8 => ⟨[8, 9, 10, 11, 12, 13, 14], [8, 9, 10], [], [], [8, 9, 10]⟩
 | 9 => ⟨[8, 9, 10, 11, 12, 13, 14, 15, 16], [8, 9, 10], [], [], [8, 9, 10]⟩
 | 10 => ⟨[8, 9, 10, 11, 13, 63], [8, 9, 10], [], [], [8, 9, 10]⟩
 | 11 => ⟨[6], [], [], [], []⟩
 | 12 => ⟨[8, 9, 10, 11, 13, 17, 18], [8, 9, 10, 17], [], [], [8, 9, 10, 17]⟩
 | 13 => ⟨[8, 9, 10, 11, 13, 17, 18, 19, 20], [8, 9, 10, 17, 19], [], [], [8, 9, 10, 17, 19]⟩
 | 14 => ⟨[6], [], [], [], []⟩
 | _ => ⟨[], [], [], [], []⟩
noncomputable abbrev ZH : Cx := ⟨Tryd.prog, ⟨id, Zn, Zm⟩, Zr⟩
theorem KW {args : List PV} {r : PV} (ha : args.length = 3) (h : awp ZH ZO (zW Tryd.prog [.tmp 6] r []) (zS args [])) : PC Tryd.prog 7 args r :=
 zL (X := ZH) mixed Tryd.func7 (c := ZO) (by kernel_rfl) (by kernel_rfl) (rs := [.tmp 6]) (by kernel_rfl) (by kernel_rfl) (by rw [ha]; decide) h
def YT : List (Nat × Nf) := []
def aao : List (Nat × List Nat) := [(39, [1000]), (40, [1000]), (41, [1000]), (43, [1000]), (44, [1000]), (45, [1000]), (47, [3]), (48, [3]), (50, [1000]), (51, [1000]), (52, [1000]), (53, [1000]), (55, []), (56, []), (57, []), (60, [59, 1001]), (61, [1000]), (62, [1000])]
def YI : Nat → Ann
 | 0 => ⟨[0, 8, 9, 10], [1000, 1001], [], [], [1000, 1001]⟩
 | 1 => ⟨[0, 8, 9, 10, 11], [1000, 1001], [], [], [1000, 1001]⟩
 | 2 => ⟨[0, 2, 3, 8, 9, 10], [3, 1000, 1001], [], [], [3, 1000, 1001]⟩
 | 3 => ⟨[0, 2, 3, 8, 9, 10, 36], [3, 1000, 1001], [], [], [3, 1000, 1001]⟩
 | 4 => ⟨[0, 8, 9, 10], [1000, 1001], [], [], [1000, 1001]⟩
 | 5 => ⟨[0, 8, 9, 10], [1000, 1001], [], [], [1000, 1001]⟩
 | _ => ⟨[], [], [], [], []⟩
attribute [go_sem] aat YV aag jZ xc jY acY acN adh ab2 abe abV QR QM Q8 abj abK abr adG adH adK adz adV acR abq abA abg aaq aah aax ab9 abv ab1 abG abH abP aca abO aa7 Yp Yl Yj vz vB vw abR abD abQ ZJ ZL ZB vW jc jb ac7 aed ads Wz WM Wy ahb agV ahL Q7 Wp Wh ZN ZG ZM ZW ZT Zy adQ adp adw abT aa9 abS Wx WC WL KQ KC Kz ZE ZK ZR K7 Vj Vb Kr KE Ky Kq KG KP KY Vf K4 Vg Vk Vd YB YU YM Xj Xa Xf aal YE aaC Yr Yk Yo xP xO xV abX abI abB afZ afJ afB Wd Wq We Z4 ZI Zz QU QT Q5 aeg ad7 aes Q0 QZ Wl abu abd ab3 abb aby abm VG VT VL K6 Ve K3 aav aau aaG YK aaE aaa aad YD aai Zp Zk Zq adi aep aeb abF abN abx af7 af8 afA Qr Qx Qv Zr Zn Zm YI YT aao ty3 ty4 ty5 ty9 ayF ayJ ayT ayI ayC ayc ayx ayR ayE ayO ayA ayP ayz ayN ayB ayS axI axA ax2 axu zu.xQ ze.xQ za.xQ zt.xQ vU.xQ qP.xQ wE.xQ zx.xQ xu.xQ pvL
theorem pvE : (∀ x : zu, x.pv = .agg [.int .i64 x.Text, .int .i64 x.Marks, .int .i64 x.zh, .int .i64 x.In]) ∧ (∀ x : ze, x.pv = .agg [.str x.Name, .str x.Value]) ∧ (∀ x : za, x.pv = .agg [.str x.Kind, .str x.Text, .list 1 (x.Marks.map PV.str), .list 2 (x.zh.map ze.pv), .list 5 (x.Kids.map za.pv)]) ∧ (∀ x : zt, x.pv = .agg [.int .u8 x.Kind, .int .i64 x.From, .int .i64 x.To, .list 5 (x.wO.map za.pv), .str x.Name, .str x.Value]) ∧ (∀ x : vU, x.pv = .agg [.str x.a.Kind, .str x.a.Text, .list 1 (x.a.Marks.map PV.str), .list 2 (x.a.zh.map ze.pv), .list 5 (x.a.Kids.map za.pv), .str x.b.Kind, .str x.b.Text, .list 1 (x.b.Marks.map PV.str), .list 2 (x.b.zh.map ze.pv), .list 5 (x.b.Kids.map za.pv), .list 1 (x.path.map (PV.int .i64)), .int .i64 x.at_, .int .i64 x.head, .int .i64 x.m, .int .i64 x.n, .list 6 (x.attrs.map zt.pv)]) ∧ (∀ x : qP, x.pv = .agg [.list 1 (x.path.map (PV.int .i64)), .str x.in_.Kind, .str x.in_.Text, .list 1 (x.in_.Marks.map PV.str), .list 2 (x.in_.zh.map ze.pv), .list 5 (x.in_.Kids.map za.pv), .int .i64 x.from_, .int .i64 x.to_]) ∧ (∀ x : wE, x.pv = .agg [.list 1 (x.Path.map (PV.int .i64)), .int .i64 x.Index, .int .i64 x.Offset]) ∧ (∀ x : zx, x.pv = .agg [.int .i64 x.Pos, .int .i64 x.Old, .int .i64 x.New]) ∧ (∀ x : xu, x.pv = .agg [.int .u8 x.s.Kind, .int .i64 x.s.From, .int .i64 x.s.To, .list 5 (x.s.wO.map za.pv), .str x.s.Name, .str x.s.Value, .list 3 (x.changed.map zx.pv)]) ∧ (∀ (α : Type) (sz : Nat) (f : α → PV) (l : List α), pvL sz f l = .list sz (l.map f)) :=
 ⟨zu.xQ, ze.xQ, za.xQ, zt.xQ, vU.xQ, qP.xQ, wE.xQ, zx.xQ, xu.xQ, fun _ _ _ _ => rfl⟩
theorem lsE {α β : Type} (f : α → β) : (∀ a l, List.map f (a :: l) = f a :: List.map f l) ∧ List.map f [] = [] ∧ (∀ a b, List.map f (a ++ b) = List.map f a ++ List.map f b) :=
 ⟨fun _ _ => rfl, rfl, fun a b => List.map_append⟩
end Go.Proofs.YtclohbgnaopjfaaDoor
