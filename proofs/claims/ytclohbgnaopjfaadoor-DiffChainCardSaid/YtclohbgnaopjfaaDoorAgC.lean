/- Texts of the proof of diffChainCard -/
import Derived.Test.YtclohbgnaopjfaaDoorAgT
import Derived.Test.YtclohbgnaopjfaaDoorAwT
namespace Go.Proofs.YtclohbgnaopjfaaDoor
set_option linter.unusedSimpArgs false
set_option linter.unusedVariables false
open Go
set_option maxRecDepth 100000
noncomputable def aca : Code := (Tryd.f58.body).getD .skip
def aah : List (Nat × Nf) := []
def aaO : List (Nat × List Nat) := []
def aaq : Nat → Ann
 | 0 => ⟨[1], [1], [], [], [1]⟩
 | 1 => ⟨[2], [], [], [], []⟩
 | _ => ⟨[], [], [], [], []⟩
noncomputable abbrev acd : Cx := ⟨Tryd.prog, ⟨id, aah, aaO⟩, aaq⟩
theorem aeF {args : List PV} {r : PV} (ha : args.length = 1) (h : awp acd aca (zS Tryd.prog [.tmp 2] r []) (zR args [])) : PC Tryd.prog 58 args r :=
 zK (X := acd) mixed Tryd.func58 (c := aca) (by kernel_rfl) (by kernel_rfl) (rs := [.tmp 2]) (by kernel_rfl) (by kernel_rfl) (by rw [ha]; decide) h
noncomputable def xA : Code := (Tryd.f63.body).getD .skip
def xg : List (Nat × Nf) := []
def xh : List (Nat × List Nat) := []
def xe : Nat → Ann
 | 0 => ⟨[0, 2], [], [], [], []⟩
 | 1 => ⟨[2, 4], [4], [], [], [4]⟩
 | 2 => ⟨[2, 4, 6], [4], [], [], [4]⟩
 | 3 => ⟨[2, 4], [4], [], [], [4]⟩
 | 4 => ⟨[2], [], [], [], []⟩
 | _ => ⟨[], [], [], [], []⟩
noncomputable abbrev xz : Cx := ⟨Tryd.prog, ⟨id, xg, xh⟩, xe⟩
theorem ZA {args : List PV} {r : PV} (ha : args.length = 1) (h : awp xz xA (zS Tryd.prog [.tmp 2] r []) (zR args [])) : PC Tryd.prog 63 args r :=
 zK (X := xz) mixed Tryd.func63 (c := xA) (by kernel_rfl) (by kernel_rfl) (rs := [.tmp 2]) (by kernel_rfl) (by kernel_rfl) (by rw [ha]; decide) h
noncomputable def agj : Code := (Tryd.f34.body).getD .skip
def adt : List (Nat × Nf) := []
def adC : List (Nat × List Nat) := []
def ada : Nat → Ann
 | 0 => ⟨[1], [1], [], [], [1]⟩
 | 1 => ⟨[1, 4], [1], [], [], [1]⟩
 | 2 => ⟨[2], [], [], [], []⟩
 | 3 => ⟨[2], [], [], [], []⟩
 | _ => ⟨[], [], [], [], []⟩
noncomputable abbrev agd : Cx := ⟨Tryd.prog, ⟨id, adt, adC⟩, ada⟩
theorem agJ {args : List PV} {r : PV} (ha : args.length = 1) (h : awp agd agj (zS Tryd.prog [.tmp 2] r []) (zR args [])) : PC Tryd.prog 34 args r :=
 zK (X := agd) mixed Tryd.func34 (c := agj) (by kernel_rfl) (by kernel_rfl) (rs := [.tmp 2]) (by kernel_rfl) (by kernel_rfl) (by rw [ha]; decide) h
noncomputable def aeD : Code := (Tryd.f27.body).getD .skip
def ack : List (Nat × Nf) := []
def aco : List (Nat × List Nat) := []
def abF : Nat → Ann
 | 0 => ⟨[0], [], [], [], []⟩
 | 1 => ⟨[0, 3], [], [], [], []⟩
 | 2 => ⟨[3, 6, 7, 8], [], [], [], []⟩
 | 3 => ⟨[3, 6, 7, 8, 9], [], [], [], []⟩
 | 4 => ⟨[3, 5, 6, 7, 8], [5], [], [], [5]⟩
 | 5 => ⟨[3, 6, 7, 8], [], [], [], []⟩
 | 6 => ⟨[3, 6, 7, 8], [], [], [], []⟩
 | 7 => ⟨[2], [], [], [], []⟩
 | _ => ⟨[], [], [], [], []⟩
noncomputable abbrev aex : Cx := ⟨Tryd.prog, ⟨id, ack, aco⟩, abF⟩
theorem afe {args : List PV} {r : PV} (ha : args.length = 1) (h : awp aex aeD (zS Tryd.prog [.tmp 2] r []) (zR args [])) : PC Tryd.prog 27 args r :=
 zK (X := aex) mixed Tryd.func27 (c := aeD) (by kernel_rfl) (by kernel_rfl) (rs := [.tmp 2]) (by kernel_rfl) (by kernel_rfl) (by rw [ha]; decide) h
noncomputable def WK : Code := (Tryd.f42.body).getD .skip
def QH : List (Nat × Nf) := []
def Wo : List (Nat × List Nat) := []
def Q0 : Nat → Ann
 | 0 => ⟨[0, 1], [], [], [], []⟩
 | 1 => ⟨[0, 1, 10], [], [], [], []⟩
 | 2 => ⟨[4], [], [], [], []⟩
 | 3 => ⟨[0, 1, 12, 13], [], [], [], []⟩
 | 4 => ⟨[0, 1, 12, 13, 14], [], [], [], []⟩
 | 5 => ⟨[0, 1, 5, 12, 13], [], [], [], []⟩
 | 6 => ⟨[0, 1, 12, 13, 24], [], [], [], []⟩
 | 7 => ⟨[4], [], [], [], []⟩
 | 8 => ⟨[0, 1, 12, 13], [], [], [], []⟩
 | 9 => ⟨[4], [], [], [], []⟩
 | _ => ⟨[], [], [], [], []⟩
noncomputable abbrev WG : Cx := ⟨Tryd.prog, ⟨id, QH, Wo⟩, Q0⟩
theorem Jg {args : List PV} {r : PV} (ha : args.length = 2) (h : awp WG WK (zS Tryd.prog [.tmp 4] r []) (zR args [])) : PC Tryd.prog 42 args r :=
 zK (X := WG) mixed Tryd.func42 (c := WK) (by kernel_rfl) (by kernel_rfl) (rs := [.tmp 4]) (by kernel_rfl) (by kernel_rfl) (by rw [ha]; decide) h
noncomputable def aee : Code := (Tryd.f104.body).getD .skip
def abn : List (Nat × Nf) := []
def acj : List (Nat × List Nat) := []
def acr : Nat → Ann
 | 0 => ⟨[2, 3], [2, 3], [], [], [2, 3]⟩
 | 1 => ⟨[4], [], [], [], []⟩
 | _ => ⟨[], [], [], [], []⟩
noncomputable abbrev acX : Cx := ⟨Tryd.prog, ⟨id, abn, acj⟩, acr⟩
theorem aeT {args : List PV} {r : PV} (ha : args.length = 2) (h : awp acX aee (zS Tryd.prog [.tmp 4] r []) (zR args [])) : PC Tryd.prog 104 args r :=
 zK (X := acX) mixed Tryd.func104 (c := aee) (by kernel_rfl) (by kernel_rfl) (rs := [.tmp 4]) (by kernel_rfl) (by kernel_rfl) (by rw [ha]; decide) h
noncomputable def af2 : Code := (Tryd.f80.body).getD .skip
def acY : List (Nat × Nf) := []
def aek : List (Nat × List Nat) := []
def adS : Nat → Ann
 | 0 => ⟨[0], [], [], [], []⟩
 | 1 => ⟨[0, 3], [], [], [], []⟩
 | 2 => ⟨[2], [], [], [], []⟩
 | _ => ⟨[], [], [], [], []⟩
noncomputable abbrev afM : Cx := ⟨Tryd.prog, ⟨id, acY, aek⟩, adS⟩
theorem agR {args : List PV} {r : PV} (ha : args.length = 1) (h : awp afM af2 (zS Tryd.prog [.tmp 2] r []) (zR args [])) : PC Tryd.prog 80 args r :=
 zK (X := afM) mixed Tryd.func80 (c := af2) (by kernel_rfl) (by kernel_rfl) (rs := [.tmp 2]) (by kernel_rfl) (by kernel_rfl) (by rw [ha]; decide) h
noncomputable def agf : Code := (Tryd.f111.body).getD .skip
def adK : List (Nat × Nf) := []
def adD : List (Nat × List Nat) := []
def ac8 : Nat → Ann
 | 0 => ⟨[0], [], [], [], []⟩
 | 1 => ⟨[0, 5, 6, 7], [], [], [], []⟩
 | 2 => ⟨[0, 5, 6, 7, 8], [], [], [], []⟩
 | 3 => ⟨[0, 3, 4, 5, 6, 7], [], [], [], []⟩
 | 4 => ⟨[0, 5, 6, 7, 27], [], [], [], []⟩
 | 5 => ⟨[2], [], [], [], []⟩
 | 6 => ⟨[0, 5, 6, 7], [], [], [], []⟩
 | 7 => ⟨[2], [], [], [], []⟩
 | _ => ⟨[], [], [], [], []⟩
noncomputable abbrev af7 : Cx := ⟨Tryd.prog, ⟨id, adK, adD⟩, ac8⟩
theorem agK {args : List PV} {r : PV} (ha : args.length = 1) (h : awp af7 agf (zS Tryd.prog [.tmp 2] r []) (zR args [])) : PC Tryd.prog 111 args r :=
 zK (X := af7) mixed Tryd.func111 (c := agf) (by kernel_rfl) (by kernel_rfl) (rs := [.tmp 2]) (by kernel_rfl) (by kernel_rfl) (by rw [ha]; decide) h
noncomputable def aeG : Code := (Tryd.f81.body).getD .skip
def abI : List (Nat × Nf) := []
def aby : List (Nat × List Nat) := []
def ab2 : Nat → Ann
 | 0 => ⟨[0], [], [], [], []⟩
 | 1 => ⟨[2], [], [], [], []⟩
 | _ => ⟨[], [], [], [], []⟩
noncomputable abbrev adF : Cx := ⟨Tryd.prog, ⟨id, abI, aby⟩, ab2⟩
theorem ae5 {args : List PV} {r : PV} (ha : args.length = 1) (h : awp adF aeG (zS Tryd.prog [.tmp 2] r []) (zR args [])) : PC Tryd.prog 81 args r :=
 zK (X := adF) mixed Tryd.func81 (c := aeG) (by kernel_rfl) (by kernel_rfl) (rs := [.tmp 2]) (by kernel_rfl) (by kernel_rfl) (by rw [ha]; decide) h
noncomputable def abV : Code := (Tryd.f93.body).getD .skip
def aaB : List (Nat × Nf) := []
def Y5 : List (Nat × List Nat) := []
def aap : Nat → Ann
 | 0 => ⟨[1], [1], [], [], [1]⟩
 | 1 => ⟨[1, 9], [1], [], [], [1]⟩
 | 2 => ⟨[2], [], [], [], []⟩
 | 3 => ⟨[1, 3], [1, 3], [.thaw 3 3 1], [], [1, 3]⟩
 | 4 => ⟨[1, 3, 34, 35, 36], [1, 3], [], [], [1, 3]⟩
 | 5 => ⟨[1, 3, 34, 35, 36, 37], [1, 3], [], [], [1, 3]⟩
 | 6 => ⟨[1, 3, 5, 34, 35, 36], [1, 3, 5], [], [], [1, 3, 5]⟩
 | 7 => ⟨[1, 3, 5, 34, 35, 36, 43], [1, 3, 5], [], [], [1, 3, 5]⟩
 | 8 => ⟨[2], [], [], [], []⟩
 | 9 => ⟨[1, 3, 34, 35, 36], [1, 3], [], [], [1, 3]⟩
 | 10 => ⟨[1, 3, 34, 35, 36], [1, 3], [], [], [1, 3]⟩
 | 11 => ⟨[1, 69], [1], [], [], [1]⟩
 | 12 => ⟨[2], [], [], [], []⟩
 | 13 => ⟨[1, 71, 72, 73], [1], [], [], [1]⟩
 | 14 => ⟨[1, 71, 72, 73, 74], [1], [], [], [1]⟩
 | 15 => ⟨[1, 6, 7, 71, 72, 73], [1, 7], [], [], [1, 7]⟩
 | 16 => ⟨[1, 71, 72, 73, 94], [1], [], [], [1]⟩
 | 17 => ⟨[2], [], [], [], []⟩
 | 18 => ⟨[1, 71, 72, 73], [1], [], [], [1]⟩
 | 19 => ⟨[2], [], [], [], []⟩
 | _ => ⟨[], [], [], [], []⟩
noncomputable abbrev abw : Cx := ⟨Tryd.prog, ⟨id, aaB, Y5⟩, aap⟩
theorem ael {args : List PV} {r : PV} (ha : args.length = 1) (h : awp abw abV (zS Tryd.prog [.tmp 2] r []) (zR args [])) : PC Tryd.prog 93 args r :=
 zK (X := abw) mixed Tryd.func93 (c := abV) (by kernel_rfl) (by kernel_rfl) (rs := [.tmp 2]) (by kernel_rfl) (by kernel_rfl) (by rw [ha]; decide) h
noncomputable def aeA : Code := (Tryd.f94.body).getD .skip
def abL : List (Nat × Nf) := []
def abu : List (Nat × List Nat) := []
def abG : Nat → Ann
 | 0 => ⟨[1], [1], [], [], [1]⟩
 | 1 => ⟨[1, 7], [1], [], [], [1]⟩
 | 2 => ⟨[2], [], [], [], []⟩
 | 3 => ⟨[1, 3], [1], [], [], [1]⟩
 | 4 => ⟨[3, 9, 10, 11], [], [], [], []⟩
 | 5 => ⟨[3, 9, 10, 11, 12], [], [], [], []⟩
 | 6 => ⟨[3, 5, 9, 10, 11], [5], [], [], [5]⟩
 | 7 => ⟨[3, 9, 10, 11], [], [], [], []⟩
 | 8 => ⟨[3, 9, 10, 11], [], [], [], []⟩
 | 9 => ⟨[2], [], [], [], []⟩
 | _ => ⟨[], [], [], [], []⟩
noncomputable abbrev adM : Cx := ⟨Tryd.prog, ⟨id, abL, abu⟩, abG⟩
theorem ae6 {args : List PV} {r : PV} (ha : args.length = 1) (h : awp adM aeA (zS Tryd.prog [.tmp 2] r []) (zR args [])) : PC Tryd.prog 94 args r :=
 zK (X := adM) mixed Tryd.func94 (c := aeA) (by kernel_rfl) (by kernel_rfl) (rs := [.tmp 2]) (by kernel_rfl) (by kernel_rfl) (by rw [ha]; decide) h
noncomputable def aer : Code := (Tryd.f64.body).getD .skip
def abz : List (Nat × Nf) := []
def ab6 : List (Nat × List Nat) := []
def acb : Nat → Ann
 | 0 => ⟨[1], [1], [], [], [1]⟩
 | 1 => ⟨[1, 3], [1], [], [], [1]⟩
 | 2 => ⟨[2], [], [], [], []⟩
 | 3 => ⟨[1, 7], [1], [], [], [1]⟩
 | 4 => ⟨[2], [], [], [], []⟩
 | 5 => ⟨[11], [], [], [], []⟩
 | 6 => ⟨[2], [], [], [], []⟩
 | 7 => ⟨[2], [], [], [], []⟩
 | _ => ⟨[], [], [], [], []⟩
noncomputable abbrev acW : Cx := ⟨Tryd.prog, ⟨id, abz, ab6⟩, acb⟩
theorem aeK {args : List PV} {r : PV} (ha : args.length = 1) (h : awp acW aer (zS Tryd.prog [.tmp 2] r []) (zR args [])) : PC Tryd.prog 64 args r :=
 zK (X := acW) mixed Tryd.func64 (c := aer) (by kernel_rfl) (by kernel_rfl) (rs := [.tmp 2]) (by kernel_rfl) (by kernel_rfl) (by rw [ha]; decide) h
noncomputable def ac2 : Code := (Tryd.f36.body).getD .skip
def acg : List (Nat × Nf) := []
def abX : List (Nat × List Nat) := []
def acn : Nat → Ann
 | 0 => ⟨[1], [1], [], [], [1]⟩
 | 1 => ⟨[2], [], [], [], []⟩
 | _ => ⟨[], [], [], [], []⟩
noncomputable abbrev aes : Cx := ⟨Tryd.prog, ⟨id, acg, abX⟩, acn⟩
theorem ae0 {args : List PV} {r : PV} (ha : args.length = 1) (h : awp aes ac2 (zS Tryd.prog [.tmp 2] r []) (zR args [])) : PC Tryd.prog 36 args r :=
 zK (X := aes) mixed Tryd.func36 (c := ac2) (by kernel_rfl) (by kernel_rfl) (rs := [.tmp 2]) (by kernel_rfl) (by kernel_rfl) (by rw [ha]; decide) h
noncomputable def YO : Code := (Tryd.f66.body).getD .skip
def Yq : List (Nat × Nf) := []
def YA : List (Nat × List Nat) := []
def Yp : Nat → Ann
 | 0 => ⟨[2, 3], [2, 3], [], [], [2, 3]⟩
 | 1 => ⟨[4], [], [], [], []⟩
 | _ => ⟨[], [], [], [], []⟩
noncomputable abbrev aak : Cx := ⟨Tryd.prog, ⟨id, Yq, YA⟩, Yp⟩
theorem acB {args : List PV} {r : PV} (ha : args.length = 2) (h : awp aak YO (zS Tryd.prog [.tmp 4] r []) (zR args [])) : PC Tryd.prog 66 args r :=
 zK (X := aak) mixed Tryd.func66 (c := YO) (by kernel_rfl) (by kernel_rfl) (rs := [.tmp 4]) (by kernel_rfl) (by kernel_rfl) (by rw [ha]; decide) h
noncomputable def vJ : Code := (Tryd.f67.body).getD .skip
def vH : List (Nat × Nf) := []
def vI : List (Nat × List Nat) := []
def vG : Nat → Ann
 | 0 => ⟨[0, 1, 2], [], [], [], []⟩
 | 1 => ⟨[0, 1, 2, 14], [], [], [], []⟩
 | 2 => ⟨[6], [], [], [], []⟩
 | 3 => ⟨[1, 2, 15, 16, 17], [], [], [], []⟩
 | 4 => ⟨[1, 2, 15, 16, 17, 18], [], [], [], []⟩
 | 5 => ⟨[1, 2, 7, 8, 15, 16, 17], [8], [], [], [8]⟩
 | 6 => ⟨[1, 2, 8, 9, 15, 16, 17], [8, 9], [], [], [8, 9]⟩
 | 7 => ⟨[1, 2, 15, 16, 17, 30], [], [], [], []⟩
 | 8 => ⟨[6], [], [], [], []⟩
 | 9 => ⟨[1, 2, 15, 16, 17], [], [], [], []⟩
 | 10 => ⟨[6], [], [], [], []⟩
 | _ => ⟨[], [], [], [], []⟩
noncomputable abbrev vL : Cx := ⟨Tryd.prog, ⟨id, vH, vI⟩, vG⟩
theorem xV {args : List PV} {r : PV} (ha : args.length = 3) (h : awp vL vJ (zS Tryd.prog [.tmp 6] r []) (zR args [])) : PC Tryd.prog 67 args r :=
 zK (X := vL) mixed Tryd.func67 (c := vJ) (by kernel_rfl) (by kernel_rfl) (rs := [.tmp 6]) (by kernel_rfl) (by kernel_rfl) (by rw [ha]; decide) h
noncomputable def ac4 : Code := (Tryd.f39.body).getD .skip
def abB : List (Nat × Nf) := []
def abN : List (Nat × List Nat) := []
def acf : Nat → Ann
 | 0 => ⟨[2, 3], [2, 3], [], [], [2, 3]⟩
 | 1 => ⟨[2, 3, 5], [2, 3], [], [], [2, 3]⟩
 | 2 => ⟨[4], [], [], [], []⟩
 | _ => ⟨[], [], [], [], []⟩
noncomputable abbrev ady : Cx := ⟨Tryd.prog, ⟨id, abB, abN⟩, acf⟩
theorem aeN {args : List PV} {r : PV} (ha : args.length = 2) (h : awp ady ac4 (zS Tryd.prog [.tmp 4] r []) (zR args [])) : PC Tryd.prog 39 args r :=
 zK (X := ady) mixed Tryd.func39 (c := ac4) (by kernel_rfl) (by kernel_rfl) (rs := [.tmp 4]) (by kernel_rfl) (by kernel_rfl) (by rw [ha]; decide) h
noncomputable def Qr : Code := (Tryd.f43.body).getD .skip
def ZB : List (Nat × Nf) := []
def ZP : List (Nat × List Nat) := []
def ZE : Nat → Ann
 | 0 => ⟨[0, 1], [], [], [], []⟩
 | 1 => ⟨[0, 1, 10], [], [], [], []⟩
 | 2 => ⟨[4], [], [], [], []⟩
 | 3 => ⟨[0, 1, 12, 13], [], [], [], []⟩
 | 4 => ⟨[0, 1, 12, 13, 14], [], [], [], []⟩
 | 5 => ⟨[0, 1, 5, 12, 13], [], [], [], []⟩
 | 6 => ⟨[0, 1, 12, 13, 24], [], [], [], []⟩
 | 7 => ⟨[4], [], [], [], []⟩
 | 8 => ⟨[0, 1, 12, 13], [], [], [], []⟩
 | 9 => ⟨[4], [], [], [], []⟩
 | _ => ⟨[], [], [], [], []⟩
noncomputable abbrev Qw : Cx := ⟨Tryd.prog, ⟨id, ZB, ZP⟩, ZE⟩
theorem Vl {args : List PV} {r : PV} (ha : args.length = 2) (h : awp Qw Qr (zS Tryd.prog [.tmp 4] r []) (zR args [])) : PC Tryd.prog 43 args r :=
 zK (X := Qw) mixed Tryd.func43 (c := Qr) (by kernel_rfl) (by kernel_rfl) (rs := [.tmp 4]) (by kernel_rfl) (by kernel_rfl) (by rw [ha]; decide) h
noncomputable def jg : Code := (Tryd.f44.body).getD .skip
def jd : List (Nat × Nf) := []
def vX : List (Nat × List Nat) := []
def vV : Nat → Ann
 | 0 => ⟨[0, 1, 2], [], [], [], []⟩
 | 1 => ⟨[0, 1, 2, 14], [], [], [], []⟩
 | 2 => ⟨[6], [], [], [], []⟩
 | 3 => ⟨[1, 2, 15, 16, 17], [], [], [], []⟩
 | 4 => ⟨[1, 2, 15, 16, 17, 18], [], [], [], []⟩
 | 5 => ⟨[1, 2, 7, 8, 15, 16, 17], [8], [], [], [8]⟩
 | 6 => ⟨[1, 2, 8, 9, 15, 16, 17], [8, 9], [], [], [8, 9]⟩
 | 7 => ⟨[1, 2, 15, 16, 17, 30], [], [], [], []⟩
 | 8 => ⟨[6], [], [], [], []⟩
 | 9 => ⟨[1, 2, 15, 16, 17], [], [], [], []⟩
 | 10 => ⟨[6], [], [], [], []⟩
 | _ => ⟨[], [], [], [], []⟩
noncomputable abbrev jl : Cx := ⟨Tryd.prog, ⟨id, jd, vX⟩, vV⟩
theorem yD {args : List PV} {r : PV} (ha : args.length = 3) (h : awp jl jg (zS Tryd.prog [.tmp 6] r []) (zR args [])) : PC Tryd.prog 44 args r :=
 zK (X := jl) mixed Tryd.func44 (c := jg) (by kernel_rfl) (by kernel_rfl) (rs := [.tmp 6]) (by kernel_rfl) (by kernel_rfl) (by rw [ha]; decide) h
noncomputable def afY : Code := (Tryd.f15.body).getD .skip
def adi : List (Nat × Nf) := []
def ad2 : List (Nat × List Nat) := []
def adH : Nat → Ann
 | 0 => ⟨[2, 3], [2, 3], [], [], [2, 3]⟩
 | 1 => ⟨[4], [], [], [], []⟩
 | _ => ⟨[], [], [], [], []⟩
noncomputable abbrev agk : Cx := ⟨Tryd.prog, ⟨id, adi, ad2⟩, adH⟩
theorem agS {args : List PV} {r : PV} (ha : args.length = 2) (h : awp agk afY (zS Tryd.prog [.tmp 4] r []) (zR args [])) : PC Tryd.prog 15 args r :=
 zK (X := agk) mixed Tryd.func15 (c := afY) (by kernel_rfl) (by kernel_rfl) (rs := [.tmp 4]) (by kernel_rfl) (by kernel_rfl) (by rw [ha]; decide) h
noncomputable def KE : Code := (Tryd.f68.body).getD .skip
def WL : List (Nat × Nf) := []
def WC : List (Nat × List Nat) := [(39, [1000]), (40, [1000]), (41, [1000]), (43, [1000]), (44, [1000]), (45, [1000]), (47, [3]), (48, [3]), (50, [1000]), (51, [1000]), (52, [1000]), (53, [1000]), (55, []), (56, []), (57, []), (60, [59, 1002]), (61, [1000]), (62, [1000])]
def WB : Nat → Ann
 | 0 => ⟨[0, 8, 9, 10], [1000, 1001, 1002], [], [], [1000, 1001, 1002]⟩
 | 1 => ⟨[0, 8, 9, 10, 11], [1000, 1001, 1002], [], [], [1000, 1001, 1002]⟩
 | 2 => ⟨[0, 2, 3, 8, 9, 10], [3, 1000, 1001, 1002], [], [], [3, 1000, 1001, 1002]⟩
 | 3 => ⟨[0, 2, 3, 8, 9, 10, 36], [3, 1000, 1001, 1002], [], [], [3, 1000, 1001, 1002]⟩
 | 4 => ⟨[0, 8, 9, 10], [1000, 1001, 1002], [], [], [1000, 1001, 1002]⟩
 | 5 => ⟨[0, 8, 9, 10], [1000, 1001, 1002], [], [], [1000, 1001, 1002]⟩
 | _ => ⟨[], [], [], [], []⟩
noncomputable abbrev KC : Cx := ⟨Tryd.prog, ⟨(fun d => if d = 58 then 0 else d), WL, WC⟩, WB⟩
theorem JF {args : List PV} {es es' : List Ent} {r : PV} (ha : args.length = 1) (hl : es'.length = es.length) (he : (es'.all fun e => e.wY es.length) = true) (h : awp KC KE (zS Tryd.prog [] r es') (zR args es)) : BC Tryd.prog 68 args es r es' :=
 Qo (X := KC) mixed Tryd.func68 (c := KE) (by kernel_rfl) (by kernel_rfl) (rs := []) (by kernel_rfl) (by kernel_rfl) (by rw [ha]; decide) hl (fun e h => List.all_eq_true.1 he e h) h
noncomputable def ake : Code := (Tryd.f40.body).getD .skip
def aiv : List (Nat × Nf) := []
def ahK : List (Nat × List Nat) := [(151, [12]), (152, [12]), (153, [12]), (155, [12]), (156, [12]), (157, [12]), (159, [158, 394]), (160, [12]), (161, [12])]
def aiD : Nat → Ann
 | 0 => ⟨[2, 3], [2, 3], [], [], [2, 3]⟩
 | 1 => ⟨[5], [12, 394, 399], [.K9 12 10 394 1, .K9 12 15 399 6], [], [12, 394, 399]⟩
 | 2 => ⟨[5], [12, 394, 399], [], [], [12, 394, 399]⟩
 | 3 => ⟨[5, 6, 7], [12, 394, 399], [], [], [12, 394, 399]⟩
 | 4 => ⟨[5, 6, 7], [12, 394, 399], [], [], [12, 394, 399]⟩
 | 5 => ⟨[5, 6, 7, 54], [12, 394, 399], [], [], [12, 394, 399]⟩
 | 6 => ⟨[5, 6, 7], [12, 394, 399], [], [], [12, 394, 399]⟩
 | 7 => ⟨[5, 6, 7, 8], [12, 394, 399], [], [], [12, 394, 399]⟩
 | 8 => ⟨[5, 6, 7, 8, 92], [12, 394, 399], [], [], [12, 394, 399]⟩
 | 9 => ⟨[5, 6, 7, 8], [12, 394, 399], [], [], [12, 394, 399]⟩
 | 10 => ⟨[5, 6, 7], [12, 394, 399], [], [], [12, 394, 399]⟩
 | 11 => ⟨[5, 6, 7, 148], [12, 394, 399], [], [], [12, 394, 399]⟩
 | 12 => ⟨[5, 6, 7], [12, 394, 399], [], [], [12, 394, 399]⟩
 | 13 => ⟨[5, 6, 7], [12, 394, 399], [], [], [12, 394, 399]⟩
 | 14 => ⟨[5], [12, 394, 399], [], [], [12, 394, 399]⟩
 | 15 => ⟨[4], [12, 399], [.nrm 4 [none, none, none, none, none, none, none, none, none, none, some 1, none, none, none, none, none]], [], [12, 399]⟩
 | _ => ⟨[], [], [], [], []⟩
noncomputable abbrev aj8 : Cx := ⟨Tryd.prog, ⟨id, aiv, ahK⟩, aiD⟩
theorem aji {args : List PV} {r : PV} (ha : args.length = 2) (h : awp aj8 ake (zS Tryd.prog [.tmp 4] r []) (zR args [])) : PC Tryd.prog 40 args r :=
 zK (X := aj8) mixed Tryd.func40 (c := ake) (by kernel_rfl) (by kernel_rfl) (rs := [.tmp 4]) (by kernel_rfl) (by kernel_rfl) (by rw [ha]; decide) h
noncomputable def Wv : Code := (Tryd.f69.body).getD .skip
def Q3 : List (Nat × Nf) := []
def Wi : List (Nat × List Nat) := []
def We : Nat → Ann
 | 0 => ⟨[0], [5], [], [], [5]⟩
 | 1 => ⟨[0, 4], [5], [], [], [5]⟩
 | 2 => ⟨[2], [5], [], [], [5]⟩
 | 3 => ⟨[2], [5], [], [], [5]⟩
 | _ => ⟨[], [], [], [], []⟩
noncomputable abbrev WM : Cx := ⟨Tryd.prog, ⟨id, Q3, Wi⟩, We⟩
theorem Jf {args : List PV} {r : PV} (ha : args.length = 1) (h : awp WM Wv (zS Tryd.prog [.tmp 2] r []) (zR args [])) : PC Tryd.prog 69 args r :=
 zK (X := WM) mixed Tryd.func69 (c := Wv) (by kernel_rfl) (by kernel_rfl) (rs := [.tmp 2]) (by kernel_rfl) (by kernel_rfl) (by rw [ha]; decide) h
noncomputable def Qs : Code := (Tryd.f70.body).getD .skip
def Z8 : List (Nat × Nf) := []
def Z4 : List (Nat × List Nat) := []
def ZZ : Nat → Ann
 | 0 => ⟨[0], [5], [], [], [5]⟩
 | 1 => ⟨[0, 4], [5], [], [], [5]⟩
 | 2 => ⟨[2], [5], [], [], [5]⟩
 | 3 => ⟨[2], [5], [], [], [5]⟩
 | _ => ⟨[], [], [], [], []⟩
noncomputable abbrev QA : Cx := ⟨Tryd.prog, ⟨id, Z8, Z4⟩, ZZ⟩
theorem Vq {args : List PV} {r : PV} (ha : args.length = 1) (h : awp QA Qs (zS Tryd.prog [.tmp 2] r []) (zR args [])) : PC Tryd.prog 70 args r :=
 zK (X := QA) mixed Tryd.func70 (c := Qs) (by kernel_rfl) (by kernel_rfl) (rs := [.tmp 2]) (by kernel_rfl) (by kernel_rfl) (by rw [ha]; decide) h
noncomputable def Qx : Code := (Tryd.f71.body).getD .skip
def ZK : List (Nat × Nf) := []
def ZY : List (Nat × List Nat) := []
def ZR : Nat → Ann
 | 0 => ⟨[0], [5], [], [], [5]⟩
 | 1 => ⟨[0, 4], [5], [], [], [5]⟩
 | 2 => ⟨[2], [5], [], [], [5]⟩
 | 3 => ⟨[2], [5], [], [], [5]⟩
 | _ => ⟨[], [], [], [], []⟩
noncomputable abbrev Qj : Cx := ⟨Tryd.prog, ⟨id, ZK, ZY⟩, ZR⟩
theorem Vt {args : List PV} {r : PV} (ha : args.length = 1) (h : awp Qj Qx (zS Tryd.prog [.tmp 2] r []) (zR args [])) : PC Tryd.prog 71 args r :=
 zK (X := Qj) mixed Tryd.func71 (c := Qx) (by kernel_rfl) (by kernel_rfl) (rs := [.tmp 2]) (by kernel_rfl) (by kernel_rfl) (by rw [ha]; decide) h
noncomputable def agr : Code := (Tryd.f41.body).getD .skip
def adZ : List (Nat × Nf) := [(32, [none, none, none, none, some 5])]
def ad5 : List (Nat × List Nat) := [(5, [1]), (6, [1]), (8, [1]), (9, [1]), (11, [1]), (12, [1]), (13, []), (14, [1]), (15, [1]), (16, [1])]
def adv : Nat → Ann
 | 0 => ⟨[1, 2], [1, 2], [.nrm 2 [none, none, some 1, some 2, some 5]], [], [1, 2]⟩
 | 1 => ⟨[1, 2], [1, 2, 13], [], [.ren 13 311], [1, 2, 13, 311]⟩
 | 2 => ⟨[1, 2, 18, 19, 20], [1, 2, 311], [], [.ren 311 18], [1, 2, 18, 311]⟩
 | 3 => ⟨[1, 2, 18, 19, 20, 21], [1, 2, 18], [], [], [1, 2, 18]⟩
 | 4 => ⟨[1, 2, 3, 4, 18, 19, 20], [1, 2, 4, 18], [], [], [1, 2, 4, 18]⟩
 | 5 => ⟨[1, 2, 18, 19, 20], [1, 2, 18], [], [], [1, 2, 18]⟩
 | 6 => ⟨[1, 2, 18, 19, 20], [1, 2, 18], [], [], [1, 2, 18]⟩
 | 7 => ⟨[2], [2], [], [], [2]⟩
 | _ => ⟨[], [], [], [], []⟩
noncomputable abbrev agA : Cx := ⟨Tryd.prog, ⟨id, adZ, ad5⟩, adv⟩
theorem agC {args : List PV} {r : PV} (ha : args.length = 1) (h : awp agA agr (zS Tryd.prog [.cell 2 28] r []) (zR args [])) : PC Tryd.prog 41 args r :=
 zK (X := agA) mixed Tryd.func41 (c := agr) (by kernel_rfl) (by kernel_rfl) (rs := [.cell 2 28]) (by kernel_rfl) (by kernel_rfl) (by rw [ha]; decide) h
noncomputable def ad3 : Code := (Tryd.f13.body).getD .skip
def abr : List (Nat × Nf) := []
def abA : List (Nat × List Nat) := []
def abq : Nat → Ann
 | 0 => ⟨[2, 3], [2, 3], [], [], [2, 3]⟩
 | 1 => ⟨[2, 3, 23], [2, 3], [], [], [2, 3]⟩
 | 2 => ⟨[4, 5], [], [.nrm 4 [some 6]], [], []⟩
 | 3 => ⟨[6], [26, 526], [], [.ren 526 497], [26, 497, 526]⟩
 | 4 => ⟨[6, 36], [26, 497], [], [], [26, 497]⟩
 | 5 => ⟨[4, 5], [497], [], [.ren 497 4], [4, 497]⟩
 | 6 => ⟨[6, 7], [26, 497], [], [], [26, 497]⟩
 | 7 => ⟨[6, 7, 8], [26, 497], [], [], [26, 497]⟩
 | 8 => ⟨[6, 7, 8, 9], [26, 497], [], [], [26, 497]⟩
 | 9 => ⟨[4, 5], [497], [], [.ren 497 4], [4, 497]⟩
 | _ => ⟨[], [], [], [], []⟩
noncomputable abbrev adq : Cx := ⟨Tryd.prog, ⟨id, abr, abA⟩, abq⟩
theorem afH {args : List PV} {r : PV} (ha : args.length = 2) (h : awp adq ad3 (zS Tryd.prog [.tmp 4, .tmp 5] r []) (zR args [])) : PC Tryd.prog 13 args r :=
 zK (X := adq) mixed Tryd.func13 (c := ad3) (by kernel_rfl) (by kernel_rfl) (rs := [.tmp 4, .tmp 5]) (by kernel_rfl) (by kernel_rfl) (by rw [ha]; decide) h
noncomputable def Kv : Code := (Tryd.f11.body).getD .skip
def WA : List (Nat × Nf) := [(5, [none, none, some 1, some 2, some 5]), (7, [none, none, some 1, some 2, some 5]), (8, [none, none, some 1, some 2, some 5]), (10, [none, none, some 1, some 2, some 5]), (11, [none, none, some 1, some 2, some 5]), (13, [none, none, some 1, some 2, some 5]), (14, [none, none, some 1, some 2, some 5]), (16, [none, none, some 1, some 2, some 5])]
def Wx : List (Nat × List Nat) := []
def WN : Nat → Ann
 | 0 => ⟨[], [], [], [], []⟩
 | 1 => ⟨[1], [1], [], [], [1]⟩
 | 2 => ⟨[1, 2], [1, 2], [], [], [1, 2]⟩
 | 3 => ⟨[3, 4], [], [], [], []⟩
 | 4 => ⟨[0], [], [], [], []⟩
 | _ => ⟨[], [], [], [], []⟩
noncomputable abbrev Ky : Cx := ⟨Tryd.prog, ⟨id, WA, Wx⟩, WN⟩
theorem JN {args : List PV} {r : PV} (ha : args.length = 0) (h : awp Ky Kv (zS Tryd.prog [.tmp 0] r []) (zR args [])) : PC Tryd.prog 11 args r :=
 zK (X := Ky) mixed Tryd.func11 (c := Kv) (by kernel_rfl) (by kernel_rfl) (rs := [.tmp 0]) (by kernel_rfl) (by kernel_rfl) (by rw [ha]; decide) h
noncomputable def KY : Code := (Tryd.f29.body).getD .skip
def KN : List (Nat × Nf) := []
def KQ : List (Nat × List Nat) := []
def Kr : Nat → Ann
 | 0 => ⟨[0, 1], [], [], [], []⟩
 | 1 => ⟨[0, 1, 6], [], [], [], []⟩
 | 2 => ⟨[0, 1], [], [], [], []⟩
 | 3 => ⟨[4], [], [], [], []⟩
 | _ => ⟨[], [], [], [], []⟩
noncomputable abbrev K7 : Cx := ⟨Tryd.prog, ⟨id, KN, KQ⟩, Kr⟩
theorem Xf {args : List PV} {r : PV} (ha : args.length = 2) (h : awp K7 KY (zS Tryd.prog [.tmp 4] r []) (zR args [])) : PC Tryd.prog 29 args r :=
 zK (X := K7) mixed Tryd.func29 (c := KY) (by kernel_rfl) (by kernel_rfl) (rs := [.tmp 4]) (by kernel_rfl) (by kernel_rfl) (by rw [ha]; decide) h
noncomputable def Qk : Code := (Tryd.f95.body).getD .skip
def ZO : List (Nat × Nf) := []
def ZM : List (Nat × List Nat) := []
def ZX : Nat → Ann
 | 0 => ⟨[0, 1], [], [], [], []⟩
 | 1 => ⟨[0, 1, 10], [], [], [], []⟩
 | 2 => ⟨[4], [], [], [], []⟩
 | 3 => ⟨[0, 1, 5], [], [], [], []⟩
 | 4 => ⟨[0, 1, 5, 14], [], [], [], []⟩
 | 5 => ⟨[0, 1, 5], [], [], [], []⟩
 | 6 => ⟨[0, 1, 5, 25], [], [], [], []⟩
 | 7 => ⟨[4], [], [], [], []⟩
 | 8 => ⟨[4], [], [], [], []⟩
 | _ => ⟨[], [], [], [], []⟩
noncomputable abbrev Qi : Cx := ⟨Tryd.prog, ⟨id, ZO, ZM⟩, ZX⟩
theorem Vv {args : List PV} {r : PV} (ha : args.length = 2) (h : awp Qi Qk (zS Tryd.prog [.tmp 4] r []) (zR args [])) : PC Tryd.prog 95 args r :=
 zK (X := Qi) mixed Tryd.func95 (c := Qk) (by kernel_rfl) (by kernel_rfl) (rs := [.tmp 4]) (by kernel_rfl) (by kernel_rfl) (by rw [ha]; decide) h
noncomputable def V5 : Code := (Tryd.f65.body).getD .skip
def Vh : List (Nat × Nf) := []
def Vi : List (Nat × List Nat) := [(65, [3]), (66, [3, 62]), (67, [5]), (69, [62, 68])]
def KW : Nat → Ann
 | 0 => ⟨[0], [], [], [], []⟩
 | 1 => ⟨[0, 3], [3], [.thaw 3 3 5], [], [3]⟩
 | 2 => ⟨[0, 3, 4], [3], [], [], [3]⟩
 | 3 => ⟨[0, 3, 4, 10], [3], [], [], [3]⟩
 | 4 => ⟨[0, 3, 4], [3], [], [], [3]⟩
 | 5 => ⟨[0, 3, 4, 5], [3, 5], [], [], [3, 5]⟩
 | 6 => ⟨[0, 3, 4, 5, 6], [3, 5], [], [], [3, 5]⟩
 | 7 => ⟨[0, 3, 4, 5, 6, 27], [3, 5], [], [], [3, 5]⟩
 | 8 => ⟨[0, 3, 4, 5, 6, 52], [3, 5], [], [], [3, 5]⟩
 | 9 => ⟨[0, 3, 4, 5, 6], [3, 5], [], [], [3, 5]⟩
 | 10 => ⟨[0, 3, 4], [62], [], [.ren 62 3], [3, 62]⟩
 | 11 => ⟨[0, 3, 4], [3], [], [], [3]⟩
 | 12 => ⟨[2], [3], [], [.ren 3 2], [2, 3]⟩
 | _ => ⟨[], [], [], [], []⟩
noncomputable abbrev VP : Cx := ⟨Tryd.prog, ⟨id, Vh, Vi⟩, KW⟩
theorem XJ {args : List PV} {r : PV} (ha : args.length = 1) (h : awp VP V5 (zS Tryd.prog [.tmp 2] r []) (zR args [])) : PC Tryd.prog 65 args r :=
 zK (X := VP) mixed Tryd.func65 (c := V5) (by kernel_rfl) (by kernel_rfl) (rs := [.tmp 2]) (by kernel_rfl) (by kernel_rfl) (by rw [ha]; decide) h
noncomputable def KZ : Code := (Tryd.f37.body).getD .skip
def Kz : List (Nat × Nf) := [(29, [none, none, some 1, some 2, none])]
def Ku : List (Nat × List Nat) := []
def KA : Nat → Ann
 | 0 => ⟨[1, 2, 4], [2, 4], [.nrm 4 [none, none, some 1, some 2, some 5]], [], [2, 4]⟩
 | 1 => ⟨[1, 2, 4, 5], [2, 4, 8], [], [.ren 8 5], [2, 4, 5, 8]⟩
 | 2 => ⟨[1, 2, 4, 5, 6], [2, 4, 5, 9], [], [.ren 9 6], [2, 4, 5, 6, 9]⟩
 | 3 => ⟨[1, 4, 7], [4, 25], [], [.ren 25 7], [4, 7, 25]⟩
 | 4 => ⟨[4], [4], [], [], [4]⟩
 | _ => ⟨[], [], [], [], []⟩
noncomputable abbrev K8 : Cx := ⟨Tryd.prog, ⟨id, Kz, Ku⟩, KA⟩
theorem Xe {args : List PV} {r : PV} (ha : args.length = 2) (h : awp K8 KZ (zS Tryd.prog [.cell 4 28] r []) (zR args [])) : PC Tryd.prog 37 args r :=
 zK (X := K8) mixed Tryd.func37 (c := KZ) (by kernel_rfl) (by kernel_rfl) (rs := [.cell 4 28]) (by kernel_rfl) (by kernel_rfl) (by rw [ha]; decide) h
noncomputable def K3 : Code := (Tryd.f38.body).getD .skip
def Kq : List (Nat × Nf) := []
def KD : List (Nat × List Nat) := []
def Kt : Nat → Ann
 | 0 => ⟨[1], [1], [], [], [1]⟩
 | 1 => ⟨[1, 7], [1], [], [], [1]⟩
 | 2 => ⟨[2], [], [], [], []⟩
 | 3 => ⟨[1, 3], [1], [], [], [1]⟩
 | 4 => ⟨[1, 3, 4], [1], [], [], [1]⟩
 | 5 => ⟨[1, 3, 4, 12], [1], [], [], [1]⟩
 | 6 => ⟨[1, 3, 4], [1], [], [], [1]⟩
 | 7 => ⟨[1, 3, 4], [1], [], [], [1]⟩
 | 8 => ⟨[2], [], [], [], []⟩
 | _ => ⟨[], [], [], [], []⟩
noncomputable abbrev KX : Cx := ⟨Tryd.prog, ⟨id, Kq, KD⟩, Kt⟩
theorem XD {args : List PV} {r : PV} (ha : args.length = 1) (h : awp KX K3 (zS Tryd.prog [.tmp 2] r []) (zR args [])) : PC Tryd.prog 38 args r :=
 zK (X := KX) mixed Tryd.func38 (c := K3) (by kernel_rfl) (by kernel_rfl) (rs := [.tmp 2]) (by kernel_rfl) (by kernel_rfl) (by rw [ha]; decide) h
noncomputable def V7 : Code := (Tryd.f12.body).getD .skip
def Vd : List (Nat × Nf) := [(14, [none, none, some 1, some 2, none]), (34, [none, none, none, some 2, some 5]), (62, [none, none, some 1, none, none]), (93, [none, none, some 1, some 2, none]), (171, [none, none, none, none, some 5]), (173, [none, none, some 1, some 2, some 5]), (177, [none, none, none, none, some 5])]
def Ve : List (Nat × List Nat) := [(115, [12]), (116, [12]), (117, [114]), (118, [11]), (120, [114, 119]), (121, [12]), (123, [4]), (124, [4]), (126, [332]), (127, [122, 332]), (128, [12]), (130, [122, 129]), (131, [4]), (152, [11]), (153, [11]), (154, [4]), (155, [4]), (157, [332]), (158, [332]), (160, [159, 381]), (161, [11]), (500121, [12, 114]), (500131, [4, 122])]
def K4 : Nat → Ann
 | 0 => ⟨[0, 2], [2], [.nrm 2 [none, none, some 1, some 2, some 5]], [], [2]⟩
 | 1 => ⟨[0, 2, 3], [2, 13], [], [.ren 13 3], [2, 3, 13]⟩
 | 2 => ⟨[0, 2, 3, 4], [2, 3, 4, 332], [.K9 4 4 332 5], [], [2, 3, 4, 332]⟩
 | 3 => ⟨[0, 2, 3, 4, 5], [2, 3, 4, 5, 332], [.thaw 5 5 5], [], [2, 3, 4, 5, 332]⟩
 | 4 => ⟨[0, 2, 3, 4, 5, 6], [2, 3, 4, 5, 332], [], [], [2, 3, 4, 5, 332]⟩
 | 5 => ⟨[0, 2, 3, 4, 5, 6, 22], [2, 3, 4, 5, 332], [], [], [2, 3, 4, 5, 332]⟩
 | 6 => ⟨[0, 2, 3, 4, 5, 6], [2, 3, 4, 5, 332], [], [], [2, 3, 4, 5, 332]⟩
 | 7 => ⟨[0, 2, 3, 4, 5, 6, 7], [2, 3, 4, 5, 7, 332, 351], [.K9 7 2 351 1], [], [2, 3, 4, 5, 7, 332, 351]⟩
 | 8 => ⟨[0, 2, 3, 4, 5, 6, 7, 42], [2, 3, 4, 5, 7, 332, 351], [], [], [2, 3, 4, 5, 7, 332, 351]⟩
 | 9 => ⟨[0, 2, 3, 4, 5, 6, 7], [2, 3, 4, 5, 7, 332, 351], [], [], [2, 3, 4, 5, 7, 332, 351]⟩
 | 10 => ⟨[0, 2, 3, 4, 5, 6, 7, 55], [2, 3, 4, 5, 7, 332, 351], [], [], [2, 3, 4, 5, 7, 332, 351]⟩
 | 11 => ⟨[0, 2, 3, 4, 5, 6, 7], [2, 3, 4, 5, 7, 332, 351], [], [], [2, 3, 4, 5, 7, 332, 351]⟩
 | 12 => ⟨[0, 2, 3, 4, 5, 6], [2, 3, 4, 5, 332], [], [], [2, 3, 4, 5, 332]⟩
 | 13 => ⟨[0, 2, 3, 4, 5, 6, 8], [2, 3, 4, 5, 332], [], [], [2, 3, 4, 5, 332]⟩
 | 14 => ⟨[0, 2, 3, 4, 5, 6, 8, 72], [2, 3, 4, 5, 332], [], [], [2, 3, 4, 5, 332]⟩
 | 15 => ⟨[0, 2, 3, 4, 6, 8, 9], [2, 3, 4, 9, 332], [], [], [2, 3, 4, 9, 332]⟩
 | 16 => ⟨[0, 2, 3, 4, 5, 6, 8, 9], [2, 3, 4, 5, 9, 332], [.thaw 5 5 5], [], [2, 3, 4, 5, 9, 332]⟩
 | 17 => ⟨[0, 2, 3, 4, 5, 6, 8, 9, 10], [2, 3, 4, 5, 9, 332], [], [], [2, 3, 4, 5, 9, 332]⟩
 | 18 => ⟨[0, 2, 3, 4, 5, 6, 8, 9, 10, 84], [2, 3, 4, 5, 9, 332], [], [], [2, 3, 4, 5, 9, 332]⟩
 | 19 => ⟨[0, 2, 3, 4, 5, 6], [2, 3, 4, 5, 332], [], [], [2, 3, 4, 5, 332]⟩
 | 20 => ⟨[0, 2, 3, 4, 5, 6, 8, 10, 11], [2, 3, 4, 5, 11, 92, 332], [], [.ren 92 381], [2, 3, 4, 5, 11, 92, 332, 381]⟩
 | 21 => ⟨[0, 2, 3, 4, 5, 6, 10, 11, 108], [2, 3, 4, 5, 11, 332, 381], [], [], [2, 3, 4, 5, 11, 332, 381]⟩
 | 22 => ⟨[0, 2, 3, 4, 5, 6, 10, 11, 12], [2, 3, 4, 5, 11, 12, 332, 381], [], [], [2, 3, 4, 5, 11, 12, 332, 381]⟩
 | 23 => ⟨[0, 2, 3, 4, 5, 6, 10, 12], [2, 3, 4, 5, 12, 332], [.nrm 12 [none, none, none, none, some 5]], [], [2, 3, 4, 5, 12, 332]⟩
 | 24 => ⟨[0, 2, 3, 4, 5, 6], [2, 3, 4, 5, 122], [], [.ren 122 332], [2, 3, 4, 5, 122, 332]⟩
 | 25 => ⟨[0, 2, 3, 4, 5, 6, 10, 11, 151], [2, 3, 4, 5, 11, 332, 381], [], [], [2, 3, 4, 5, 11, 332, 381]⟩
 | 26 => ⟨[0, 2, 3, 4, 5, 6, 10, 11], [2, 3, 4, 5, 11, 332, 381], [], [], [2, 3, 4, 5, 11, 332, 381]⟩
 | 27 => ⟨[0, 2, 3, 4, 5, 6, 11], [2, 3, 4, 5, 11, 162, 381], [], [.ren 162 332], [2, 3, 4, 5, 11, 162, 332, 381]⟩
 | 28 => ⟨[0, 2, 3, 4, 5, 6], [2, 3, 4, 5, 332], [], [], [2, 3, 4, 5, 332]⟩
 | 29 => ⟨[2], [2], [], [], [2]⟩
 | _ => ⟨[], [], [], [], []⟩
noncomputable abbrev VV : Cx := ⟨Tryd.prog, ⟨id, Vd, Ve⟩, K4⟩
theorem X9 {args : List PV} {r : PV} (ha : args.length = 1) (h : awp VV V7 (zS Tryd.prog [.cell 2 28] r []) (zR args [])) : PC Tryd.prog 12 args r :=
 zK (X := VV) mixed Tryd.func12 (c := V7) (by kernel_rfl) (by kernel_rfl) (rs := [.cell 2 28]) (by kernel_rfl) (by kernel_rfl) (by rw [ha]; decide) h
noncomputable def VF : Code := (Tryd.f100.body).getD .skip
def Vf : List (Nat × Nf) := []
def K6 : List (Nat × List Nat) := []
def KV : Nat → Ann
 | 0 => ⟨[0], [5], [], [], [5]⟩
 | 1 => ⟨[0, 4], [5], [], [], [5]⟩
 | 2 => ⟨[2], [5], [], [], [5]⟩
 | 3 => ⟨[2], [5], [], [], [5]⟩
 | _ => ⟨[], [], [], [], []⟩
noncomputable abbrev VJ : Cx := ⟨Tryd.prog, ⟨id, Vf, K6⟩, KV⟩
theorem X7 {args : List PV} {r : PV} (ha : args.length = 1) (h : awp VJ VF (zS Tryd.prog [.tmp 2] r []) (zR args [])) : PC Tryd.prog 100 args r :=
 zK (X := VJ) mixed Tryd.func100 (c := VF) (by kernel_rfl) (by kernel_rfl) (rs := [.tmp 2]) (by kernel_rfl) (by kernel_rfl) (by rw [ha]; decide) h
noncomputable def ab3 : Code := (Tryd.f75.body).getD .skip
def YU : List (Nat × Nf) := [(28, [none, none, some 1, some 2, some 5]), (38, [none, none, some 1, some 2, some 5])]
def YR : List (Nat × List Nat) := []
def aaf : Nat → Ann
 | 0 => ⟨[1, 2, 4], [2, 4], [.nrm 4 [none, none, some 1, some 2, some 5]], [], [2, 4]⟩
 | 1 => ⟨[2, 4, 8, 9, 10], [2, 4], [], [], [2, 4]⟩
 | 2 => ⟨[2, 4, 8, 9, 10, 11], [2, 4], [], [], [2, 4]⟩
 | 3 => ⟨[2, 4, 7, 8, 9, 10], [2, 4], [], [], [2, 4]⟩
 | 4 => ⟨[2, 4, 7, 8, 9, 10, 27], [2, 4], [], [], [2, 4]⟩
 | 5 => ⟨[4, 5], [4], [], [], [4]⟩
 | 6 => ⟨[2, 4, 8, 9, 10], [2, 4], [], [], [2, 4]⟩
 | 7 => ⟨[2, 4, 8, 9, 10], [2, 4], [], [], [2, 4]⟩
 | 8 => ⟨[2, 4, 37], [2, 4], [], [], [2, 4]⟩
 | 9 => ⟨[4, 5], [4], [], [], [4]⟩
 | 10 => ⟨[4, 5], [4], [], [], [4]⟩
 | _ => ⟨[], [], [], [], []⟩
noncomputable abbrev acs : Cx := ⟨Tryd.prog, ⟨id, YU, YR⟩, aaf⟩
theorem adk {args : List PV} {r : PV} (ha : args.length = 2) (h : awp acs ab3 (zS Tryd.prog [.cell 4 28, .tmp 5] r []) (zR args [])) : PC Tryd.prog 75 args r :=
 zK (X := acs) mixed Tryd.func75 (c := ab3) (by kernel_rfl) (by kernel_rfl) (rs := [.cell 4 28, .tmp 5]) (by kernel_rfl) (by kernel_rfl) (by rw [ha]; decide) h
noncomputable def Yr : Code := (Tryd.f97.body).getD .skip
def Xt : List (Nat × Nf) := [(24, [some 1, none, none]), (59, [some 1, none, none]), (65, [some 1, none, none]), (71, [some 1, none, none])]
def Xo : List (Nat × List Nat) := []
def Xz : Nat → Ann
 | 0 => ⟨[1, 2, 4], [2, 4], [.nrm 4 [some 1, none, none]], [], [2, 4]⟩
 | 1 => ⟨[1, 2, 4, 23], [2, 4], [], [], [2, 4]⟩
 | 2 => ⟨[4, 5], [4], [], [], [4]⟩
 | 3 => ⟨[1, 2, 4, 6], [2, 4, 6, 342], [.K9 6 0 342 1], [], [2, 4, 6, 342]⟩
 | 4 => ⟨[1, 2, 4, 6, 26, 27, 28], [2, 4, 6, 342], [], [], [2, 4, 6, 342]⟩
 | 5 => ⟨[1, 2, 4, 6, 26, 27, 28, 29], [2, 4, 6, 342], [], [], [2, 4, 6, 342]⟩
 | 6 => ⟨[1, 2, 4, 6, 7, 8, 26, 27, 28], [2, 4, 6, 8, 342], [], [], [2, 4, 6, 8, 342]⟩
 | 7 => ⟨[1, 2, 4, 6, 7, 8, 9, 26, 27, 28], [2, 4, 6, 8, 342], [], [], [2, 4, 6, 8, 342]⟩
 | 8 => ⟨[1, 2, 4, 6, 8], [2, 4, 6, 8, 342], [], [], [2, 4, 6, 8, 342]⟩
 | 9 => ⟨[1, 2, 4, 6], [2, 4, 6, 342], [], [], [2, 4, 6, 342]⟩
 | 10 => ⟨[1, 2, 4, 6, 7, 8, 9, 26, 27, 28, 44], [2, 4, 6, 8, 342], [], [], [2, 4, 6, 8, 342]⟩
 | 11 => ⟨[1, 2, 4, 6, 26, 27, 28], [2, 4, 6, 342], [], [], [2, 4, 6, 342]⟩
 | 12 => ⟨[1, 2, 4, 6, 7, 8, 51], [2, 4, 6, 8, 342], [], [], [2, 4, 6, 8, 342]⟩
 | 13 => ⟨[4, 6], [4, 6, 342], [], [], [4, 6, 342]⟩
 | 14 => ⟨[4, 5], [4], [], [], [4]⟩
 | 15 => ⟨[1, 2, 4, 6, 7, 8, 60], [2, 4, 6, 8, 342], [], [], [2, 4, 6, 8, 342]⟩
 | 16 => ⟨[4, 6], [4, 6, 342], [], [], [4, 6, 342]⟩
 | 17 => ⟨[4, 5], [4], [], [], [4]⟩
 | 18 => ⟨[1, 2, 4, 6, 26, 27, 28], [2, 4, 6, 342], [], [], [2, 4, 6, 342]⟩
 | 19 => ⟨[4, 6], [4, 6, 342], [], [], [4, 6, 342]⟩
 | 20 => ⟨[4, 5], [4], [], [], [4]⟩
 | _ => ⟨[], [], [], [], []⟩
noncomputable abbrev Yv : Cx := ⟨Tryd.prog, ⟨id, Xt, Xo⟩, Xz⟩
theorem abg {args : List PV} {r : PV} (ha : args.length = 2) (h : awp Yv Yr (zS Tryd.prog [.cell 4 149, .tmp 5] r []) (zR args [])) : PC Tryd.prog 97 args r :=
 zK (X := Yv) mixed Tryd.func97 (c := Yr) (by kernel_rfl) (by kernel_rfl) (rs := [.cell 4 149, .tmp 5]) (by kernel_rfl) (by kernel_rfl) (by rw [ha]; decide) h
noncomputable def abC : Code := (Tryd.f74.body).getD .skip
def aaT : List (Nat × Nf) := []
def aaL : List (Nat × List Nat) := [(24, [6]), (25, [6]), (26, []), (27, [6]), (28, [6]), (30, [26, 29])]
def Y6 : Nat → Ann
 | 0 => ⟨[1, 2], [2], [], [], [2]⟩
 | 1 => ⟨[1, 2, 10], [2], [], [], [2]⟩
 | 2 => ⟨[4, 5], [], [.nrm 4 [some 1]], [], []⟩
 | 3 => ⟨[2, 6, 7], [2, 6], [], [], [2, 6]⟩
 | 4 => ⟨[2, 6, 23], [2, 6], [], [], [2, 6]⟩
 | 5 => ⟨[4, 5], [], [.nrm 4 [some 1]], [], []⟩
 | 6 => ⟨[2, 8], [2, 26], [], [.ren 26 8], [2, 8, 26]⟩
 | 7 => ⟨[7, 8], [8], [], [], [8]⟩
 | 8 => ⟨[4, 5], [8], [], [.ren 8 4], [4, 8]⟩
 | _ => ⟨[], [], [], [], []⟩
noncomputable abbrev aci : Cx := ⟨Tryd.prog, ⟨id, aaT, aaL⟩, Y6⟩
theorem ad7 {args : List PV} {r : PV} (ha : args.length = 2) (h : awp aci abC (zS Tryd.prog [.tmp 4, .tmp 5] r []) (zR args [])) : PC Tryd.prog 74 args r :=
 zK (X := aci) mixed Tryd.func74 (c := abC) (by kernel_rfl) (by kernel_rfl) (rs := [.tmp 4, .tmp 5]) (by kernel_rfl) (by kernel_rfl) (by rw [ha]; decide) h
noncomputable def aaG : Code := (Tryd.f77.body).getD .skip
def Yx : List (Nat × Nf) := []
def Yu : List (Nat × List Nat) := []
def Yz : Nat → Ann
 | 0 => ⟨[1, 2], [2, 1000], [], [], [2, 1000]⟩
 | 1 => ⟨[3], [1000], [], [], [1000]⟩
 | _ => ⟨[], [], [], [], []⟩
noncomputable abbrev YY : Cx := ⟨Tryd.prog, ⟨id, Yx, Yu⟩, Yz⟩
theorem acz {args : List PV} {es es' : List Ent} {r : PV} (ha : args.length = 2) (hl : es'.length = es.length) (he : (es'.all fun e => e.wY es.length) = true) (h : awp YY aaG (zS Tryd.prog [.tmp 3] r es') (zR args es)) : BC Tryd.prog 77 args es r es' :=
 Qo (X := YY) mixed Tryd.func77 (c := aaG) (by kernel_rfl) (by kernel_rfl) (rs := [.tmp 3]) (by kernel_rfl) (by kernel_rfl) (by rw [ha]; decide) hl (fun e h => List.all_eq_true.1 he e h) h
noncomputable def yg : Code := (Tryd.f76.body).getD .skip
def xS : List (Nat × Nf) := []
def xU : List (Nat × List Nat) := []
def xW : Nat → Ann
 | 0 => ⟨[0, 1], [1000], [], [], [1000]⟩
 | 1 => ⟨[0, 1, 7, 8], [1000], [], [], [1000]⟩
 | 2 => ⟨[0, 1, 7, 8, 9], [1000], [], [], [1000]⟩
 | 3 => ⟨[0, 1, 5, 7, 8], [1000], [], [], [1000]⟩
 | 4 => ⟨[0, 1, 5, 7, 8, 16], [1000], [], [], [1000]⟩
 | 5 => ⟨[4], [1000], [], [], [1000]⟩
 | 6 => ⟨[0, 1, 7, 8], [1000], [], [], [1000]⟩
 | 7 => ⟨[4], [1000], [], [], [1000]⟩
 | _ => ⟨[], [], [], [], []⟩
noncomputable abbrev yh : Cx := ⟨Tryd.prog, ⟨id, xS, xU⟩, xW⟩
theorem QG {args : List PV} {es es' : List Ent} {r : PV} (ha : args.length = 2) (hl : es'.length = es.length) (he : (es'.all fun e => e.wY es.length) = true) (h : awp yh yg (zS Tryd.prog [.tmp 4] r es') (zR args es)) : BC Tryd.prog 76 args es r es' :=
 Qo (X := yh) mixed Tryd.func76 (c := yg) (by kernel_rfl) (by kernel_rfl) (rs := [.tmp 4]) (by kernel_rfl) (by kernel_rfl) (by rw [ha]; decide) hl (fun e h => List.all_eq_true.1 he e h) h
noncomputable def ac7 : Code := (Tryd.f78.body).getD .skip
def abv : List (Nat × Nf) := [(18, [none, none, some 1, some 2, some 5]), (48, [none, none, none, none, some 5])]
def abW : List (Nat × List Nat) := []
def ace : Nat → Ann
 | 0 => ⟨[1, 3, 5, 6], [3, 5, 6], [.nrm 6 [none, none, some 1, some 2, some 5]], [], [3, 5, 6]⟩
 | 1 => ⟨[1, 3, 5, 6, 9], [3, 5, 6], [], [], [3, 5, 6]⟩
 | 2 => ⟨[1, 3, 5, 6, 9, 17], [3, 5, 6], [], [], [3, 5, 6]⟩
 | 3 => ⟨[6, 7], [6], [], [], [6]⟩
 | 4 => ⟨[1, 3, 5, 6, 22], [3, 5, 6], [], [], [3, 5, 6]⟩
 | 5 => ⟨[6, 7], [6], [], [], [6]⟩
 | 6 => ⟨[1, 3, 5, 6], [3, 5, 6, 26], [], [.ren 26 325], [3, 5, 6, 26, 325]⟩
 | 7 => ⟨[3, 6], [3, 6, 325], [], [], [3, 6, 325]⟩
 | 8 => ⟨[6, 7], [6], [], [], [6]⟩
 | _ => ⟨[], [], [], [], []⟩
noncomputable abbrev adu : Cx := ⟨Tryd.prog, ⟨id, abv, abW⟩, ace⟩
theorem aeX {args : List PV} {r : PV} (ha : args.length = 3) (h : awp adu ac7 (zS Tryd.prog [.cell 6 28, .tmp 7] r []) (zR args [])) : PC Tryd.prog 78 args r :=
 zK (X := adu) mixed Tryd.func78 (c := ac7) (by kernel_rfl) (by kernel_rfl) (rs := [.cell 6 28, .tmp 7]) (by kernel_rfl) (by kernel_rfl) (by rw [ha]; decide) h
noncomputable def ahI : Code := (Tryd.f46.body).getD .skip
def afZ : List (Nat × Nf) := [(24, [none, none, some 1, some 2, some 5]), (37, [none, none, some 1, some 2, some 5]), (58, [none, none, none, some 2, none])]
def agq : List (Nat × List Nat) := []
def agp : Nat → Ann
 | 0 => ⟨[2, 3, 4], [2, 3, 4], [.nrm 4 [none, none, some 1, some 2, some 5]], [], [2, 3, 4]⟩
 | 1 => ⟨[2, 3, 4, 7, 8], [2, 3, 4], [], [], [2, 3, 4]⟩
 | 2 => ⟨[2, 3, 4, 7, 23], [2, 3, 4], [], [], [2, 3, 4]⟩
 | 3 => ⟨[4, 5, 6], [4], [], [], [4]⟩
 | 4 => ⟨[2, 3, 4, 7, 9], [2, 3, 4, 9], [], [], [2, 3, 4, 9]⟩
 | 5 => ⟨[2, 3, 4, 7, 9, 11], [2, 3, 4, 9], [], [], [2, 3, 4, 9]⟩
 | 6 => ⟨[2, 3, 4, 7, 9, 11, 36], [2, 3, 4, 9], [], [], [2, 3, 4, 9]⟩
 | 7 => ⟨[4, 5, 6], [4], [], [], [4]⟩
 | 8 => ⟨[2, 3, 4, 7, 9, 11, 12], [2, 3, 4, 9], [], [], [2, 3, 4, 9]⟩
 | 9 => ⟨[2, 3, 4, 7, 9, 11, 12], [2, 3, 4, 9, 46], [], [.ren 46 366], [2, 3, 4, 9, 46, 366]⟩
 | 10 => ⟨[2, 4, 7, 9, 12], [2, 4, 9, 366], [], [], [2, 4, 9, 366]⟩
 | 11 => ⟨[4, 12, 13, 14], [4, 13], [], [], [4, 13]⟩
 | 12 => ⟨[4, 5, 6], [4], [], [], [4]⟩
 | _ => ⟨[], [], [], [], []⟩
noncomputable abbrev ahL : Cx := ⟨Tryd.prog, ⟨id, afZ, agq⟩, agp⟩
theorem aiT {args : List PV} {r : PV} (ha : args.length = 2) (h : awp ahL ahI (zS Tryd.prog [.cell 4 28, .tmp 5, .tmp 6] r []) (zR args [])) : PC Tryd.prog 46 args r :=
 zK (X := ahL) mixed Tryd.func46 (c := ahI) (by kernel_rfl) (by kernel_rfl) (rs := [.cell 4 28, .tmp 5, .tmp 6]) (by kernel_rfl) (by kernel_rfl) (by rw [ha]; decide) h
noncomputable def WH : Code := (Tryd.f113.body).getD .skip
def Q4 : List (Nat × Nf) := []
def QS : List (Nat × List Nat) := []
def Wj : Nat → Ann
 | 0 => ⟨[0, 1, 2, 6], [1000, 1001], [], [], [1000, 1001]⟩
 | 1 => ⟨[0, 1, 2, 6, 35], [1000, 1001], [], [], [1000, 1001]⟩
 | 2 => ⟨[], [1000, 1001], [], [], [1000, 1001]⟩
 | 3 => ⟨[], [1000, 1001], [], [], [1000, 1001]⟩
 | _ => ⟨[], [], [], [], []⟩
noncomputable abbrev Ww : Cx := ⟨Tryd.prog, ⟨id, Q4, QS⟩, Wj⟩
theorem Jj {args : List PV} {es es' : List Ent} {r : PV} (ha : args.length = 3) (hl : es'.length = es.length) (he : (es'.all fun e => e.wY es.length) = true) (h : awp Ww WH (zS Tryd.prog [] r es') (zR args es)) : BC Tryd.prog 113 args es r es' :=
 Qo (X := Ww) mixed Tryd.func113 (c := WH) (by kernel_rfl) (by kernel_rfl) (rs := []) (by kernel_rfl) (by kernel_rfl) (by rw [ha]; decide) hl (fun e h => List.all_eq_true.1 he e h) h
noncomputable def Qn : Code := (Tryd.f114.body).getD .skip
def ZT : List (Nat × Nf) := []
def ZJ : List (Nat × List Nat) := []
def ZG : Nat → Ann
 | 0 => ⟨[0, 1, 2, 3, 4, 8], [8, 1000, 1001], [.nrm 8 [none, none, some 1, some 2, some 5]], [], [8, 1000, 1001]⟩
 | 1 => ⟨[8], [8, 1000, 1001], [.nrm 8 [none, none, none, some 2, some 5]], [], [8, 1000, 1001]⟩
 | _ => ⟨[], [], [], [], []⟩
noncomputable abbrev QC : Cx := ⟨Tryd.prog, ⟨id, ZT, ZJ⟩, ZG⟩
theorem Vj {args : List PV} {es es' : List Ent} {r : PV} (ha : args.length = 5) (hl : es'.length = es.length) (he : (es'.all fun e => e.wY es.length) = true) (h : awp QC Qn (zS Tryd.prog [.cell 8 28] r es') (zR args es)) : BC Tryd.prog 114 args es r es' :=
 Qo (X := QC) mixed Tryd.func114 (c := Qn) (by kernel_rfl) (by kernel_rfl) (rs := [.cell 8 28]) (by kernel_rfl) (by kernel_rfl) (by rw [ha]; decide) hl (fun e h => List.all_eq_true.1 he e h) h
noncomputable def WI : Code := (Tryd.f101.body).getD .skip
def Q9 : List (Nat × Nf) := []
def QZ : List (Nat × List Nat) := [(69, [4]), (70, [4]), (71, [4, 7, 999999]), (76, [4, 7, 999999]), (79, [7]), (81, [4]), (82, [4]), (83, [4, 7, 999999])]
def Wd : Nat → Ann
 | 0 => ⟨[0, 2, 4], [4, 1000, 1001], [], [], [4, 1000, 1001]⟩
 | 1 => ⟨[0, 2, 4, 7], [4, 7, 1000, 1001], [], [], [4, 7, 1000, 1001]⟩
 | 2 => ⟨[0, 2, 4, 7, 8], [4, 7, 1000, 1001], [], [], [4, 7, 1000, 1001]⟩
 | 3 => ⟨[0, 2, 4, 7, 8, 9], [4, 7, 1000, 1001], [], [], [4, 7, 1000, 1001]⟩
 | 4 => ⟨[0, 2, 4, 7, 8, 9, 10, 11], [4, 7, 1000, 1001], [], [], [4, 7, 1000, 1001]⟩
 | 5 => ⟨[0, 2, 4, 7, 8, 9, 10, 55], [4, 7, 1000, 1001], [], [], [4, 7, 1000, 1001]⟩
 | 6 => ⟨[6], [57, 1000, 1001], [], [.ren 57 6], [6, 57, 1000, 1001]⟩
 | 7 => ⟨[4, 7, 8, 9, 10], [4, 7, 1000, 1001], [], [], [4, 7, 1000, 1001]⟩
 | 8 => ⟨[4, 7, 8, 9, 10, 12], [4, 7, 1000, 1001], [], [], [4, 7, 1000, 1001]⟩
 | 9 => ⟨[6], [84, 1000, 1001], [], [.ren 84 6], [6, 84, 1000, 1001]⟩
 | _ => ⟨[], [], [], [], []⟩
noncomputable abbrev WE : Cx := ⟨Tryd.prog, ⟨id, Q9, QZ⟩, Wd⟩
theorem Ji {args : List PV} {es es' : List Ent} {r : PV} (ha : args.length = 3) (hl : es'.length = es.length) (he : (es'.all fun e => e.wY es.length) = true) (h : awp WE WI (zS Tryd.prog [.tmp 6] r es') (zR args es)) : BC Tryd.prog 101 args es r es' :=
 Qo (X := WE) mixed Tryd.func101 (c := WI) (by kernel_rfl) (by kernel_rfl) (rs := [.tmp 6]) (by kernel_rfl) (by kernel_rfl) (by rw [ha]; decide) hl (fun e h => List.all_eq_true.1 he e h) h
noncomputable def agc : Code := (Tryd.f82.body).getD .skip
def ad1 : List (Nat × Nf) := []
def adz : List (Nat × List Nat) := []
def ado : Nat → Ann
 | 0 => ⟨[0], [], [], [], []⟩
 | 1 => ⟨[0, 3], [3], [.thaw 3 3 5], [], [3]⟩
 | 2 => ⟨[3, 7, 8, 9], [3], [], [], [3]⟩
 | 3 => ⟨[3, 7, 8, 9, 10], [3], [], [], [3]⟩
 | 4 => ⟨[3, 5, 7, 8, 9], [3, 5], [], [], [3, 5]⟩
 | 5 => ⟨[3, 5, 6, 7, 8, 9], [3, 5], [], [], [3, 5]⟩
 | 6 => ⟨[3, 7, 8, 9], [3], [], [], [3]⟩
 | 7 => ⟨[3, 5, 6, 7, 8, 9, 20], [3, 5], [], [], [3, 5]⟩
 | 8 => ⟨[3, 5, 6, 7, 8, 9, 28], [3, 5], [], [], [3, 5]⟩
 | 9 => ⟨[3, 5, 6, 7, 8, 9], [3, 5], [], [], [3, 5]⟩
 | 10 => ⟨[3, 7, 8, 9], [3], [], [], [3]⟩
 | 11 => ⟨[3, 7, 8, 9], [3], [], [], [3]⟩
 | 12 => ⟨[2], [3], [], [.ren 3 2], [2, 3]⟩
 | _ => ⟨[], [], [], [], []⟩
noncomputable abbrev afV : Cx := ⟨Tryd.prog, ⟨id, ad1, adz⟩, ado⟩
theorem agP {args : List PV} {r : PV} (ha : args.length = 1) (h : awp afV agc (zS Tryd.prog [.tmp 2] r []) (zR args [])) : PC Tryd.prog 82 args r :=
 zK (X := afV) mixed Tryd.func82 (c := agc) (by kernel_rfl) (by kernel_rfl) (rs := [.tmp 2]) (by kernel_rfl) (by kernel_rfl) (by rw [ha]; decide) h
noncomputable def Wz : Code := (Tryd.f79.body).getD .skip
def Q5 : List (Nat × Nf) := []
def Wp : List (Nat × List Nat) := []
def QV : Nat → Ann
 | 0 => ⟨[0, 1, 2], [1000, 1001], [], [], [1000, 1001]⟩
 | 1 => ⟨[0, 1, 2, 7], [7, 1000, 1001], [.thaw 7 7 5], [], [7, 1000, 1001]⟩
 | 2 => ⟨[0, 2, 7, 11, 12, 13], [7, 1000, 1001], [], [], [7, 1000, 1001]⟩
 | 3 => ⟨[0, 2, 7, 11, 12, 13, 14], [7, 1000, 1001], [], [], [7, 1000, 1001]⟩
 | 4 => ⟨[0, 2, 7, 9, 11, 12, 13], [7, 9, 1000, 1001], [], [], [7, 9, 1000, 1001]⟩
 | 5 => ⟨[0, 2, 7, 9, 10, 11, 12, 13], [7, 9, 1000, 1001], [], [], [7, 9, 1000, 1001]⟩
 | 6 => ⟨[0, 2, 7, 9, 10, 11, 12, 13, 21], [7, 9, 1000, 1001], [], [], [7, 9, 1000, 1001]⟩
 | 7 => ⟨[0, 2, 7, 10, 11, 12, 13], [7, 1000, 1001], [], [], [7, 1000, 1001]⟩
 | 8 => ⟨[0, 2, 7, 9, 10, 11, 12, 13], [7, 9, 1000, 1001], [], [], [7, 9, 1000, 1001]⟩
 | 9 => ⟨[0, 2, 7, 10, 11, 12, 13], [7, 1000, 1001], [], [], [7, 1000, 1001]⟩
 | 10 => ⟨[0, 2, 7, 11, 12, 13], [7, 1000, 1001], [], [], [7, 1000, 1001]⟩
 | 11 => ⟨[0, 2, 7, 11, 12, 13], [7, 1000, 1001], [], [], [7, 1000, 1001]⟩
 | 12 => ⟨[6], [1000, 1001], [], [], [1000, 1001]⟩
 | _ => ⟨[], [], [], [], []⟩
noncomputable abbrev WJ : Cx := ⟨Tryd.prog, ⟨id, Q5, Wp⟩, QV⟩
theorem Jd {args : List PV} {es es' : List Ent} {r : PV} (ha : args.length = 3) (hl : es'.length = es.length) (he : (es'.all fun e => e.wY es.length) = true) (h : awp WJ Wz (zS Tryd.prog [.tmp 6] r es') (zR args es)) : BC Tryd.prog 79 args es r es' :=
 Qo (X := WJ) mixed Tryd.func79 (c := Wz) (by kernel_rfl) (by kernel_rfl) (rs := [.tmp 6]) (by kernel_rfl) (by kernel_rfl) (by rw [ha]; decide) hl (fun e h => List.all_eq_true.1 he e h) h
noncomputable def adm : Code := (Tryd.f47.body).getD .skip
def abR : List (Nat × Nf) := [(14, [none, none, some 1, some 2, some 5])]
def abo : List (Nat × List Nat) := [(23, [2]), (25, [17]), (26, [17]), (27, [17]), (500004, [4])]
def acp : Nat → Ann
 | 0 => ⟨[2, 3, 4], [2, 3, 4], [.nrm 4 [none, none, some 1, some 2, some 5]], [], [2, 3, 4]⟩
 | 1 => ⟨[2, 3, 4, 13], [2, 3, 4], [], [], [2, 3, 4]⟩
 | 2 => ⟨[4, 5, 6], [4], [.nrm 5 [some 3]], [], [4]⟩
 | 3 => ⟨[2, 4, 7], [2, 4, 17, 425], [.K9 17 6 425 3], [], [2, 4, 17, 425]⟩
 | 4 => ⟨[2, 4, 7], [2, 4, 17, 425], [], [], [2, 4, 17, 425]⟩
 | 5 => ⟨[4, 5, 6], [4, 425], [], [.ren 425 5], [4, 5, 425]⟩
 | _ => ⟨[], [], [], [], []⟩
noncomputable abbrev adf : Cx := ⟨Tryd.prog, ⟨id, abR, abo⟩, acp⟩
theorem afs {args : List PV} {r : PV} (ha : args.length = 2) (h : awp adf adm (zS Tryd.prog [.cell 4 28, .tmp 5, .tmp 6] r []) (zR args [])) : PC Tryd.prog 47 args r :=
 zK (X := adf) mixed Tryd.func47 (c := adm) (by kernel_rfl) (by kernel_rfl) (rs := [.cell 4 28, .tmp 5, .tmp 6]) (by kernel_rfl) (by kernel_rfl) (by rw [ha]; decide) h
noncomputable def adP : Code := (Tryd.f48.body).getD .skip
def abM : List (Nat × Nf) := [(26, [none, none, some 1, some 2, none])]
def abS : List (Nat × List Nat) := []
def abt : Nat → Ann
 | 0 => ⟨[1], [1], [], [], [1]⟩
 | 1 => ⟨[1, 3], [1], [], [], [1]⟩
 | 2 => ⟨[1, 3, 21], [1], [], [], [1]⟩
 | 3 => ⟨[1, 3, 21, 22], [1], [], [], [1]⟩
 | 4 => ⟨[1, 3, 4], [1], [], [], [1]⟩
 | 5 => ⟨[2], [], [], [], []⟩
 | 6 => ⟨[1, 3, 21, 41], [1], [], [], [1]⟩
 | 7 => ⟨[2], [], [], [], []⟩
 | 8 => ⟨[1, 3, 21, 72], [1], [], [], [1]⟩
 | 9 => ⟨[1, 3, 72], [1], [], [], [1]⟩
 | 10 => ⟨[2], [], [], [], []⟩
 | 11 => ⟨[2], [], [], [], []⟩
 | _ => ⟨[], [], [], [], []⟩
noncomputable abbrev adN : Cx := ⟨Tryd.prog, ⟨id, abM, abS⟩, abt⟩
theorem aeR {args : List PV} {r : PV} (ha : args.length = 1) (h : awp adN adP (zS Tryd.prog [.tmp 2] r []) (zR args [])) : PC Tryd.prog 48 args r :=
 zK (X := adN) mixed Tryd.func48 (c := adP) (by kernel_rfl) (by kernel_rfl) (rs := [.tmp 2]) (by kernel_rfl) (by kernel_rfl) (by rw [ha]; decide) h
noncomputable def Jm : Code := (Tryd.f96.body).getD .skip
def VY : List (Nat × Nf) := [(4, [some 1, none, none, some 1, some 2, some 5, none, none])]
def V9 : List (Nat × List Nat) := []
def VE : Nat → Ann
 | 0 => ⟨[1, 3], [1000, 1001], [], [], [1000, 1001]⟩
 | 1 => ⟨[], [1000, 1001], [], [], [1000, 1001]⟩
 | _ => ⟨[], [], [], [], []⟩
noncomputable abbrev Ju : Cx := ⟨Tryd.prog, ⟨id, VY, V9⟩, VE⟩
theorem YE {args : List PV} {es es' : List Ent} {r : PV} (ha : args.length = 2) (hl : es'.length = es.length) (he : (es'.all fun e => e.wY es.length) = true) (h : awp Ju Jm (zS Tryd.prog [] r es') (zR args es)) : BD Tryd.prog 96 args es r es' :=
 asI (X := Ju) mixed Tryd.func96 (c := Jm) (by kernel_rfl) (rs := []) (by kernel_rfl) (by kernel_rfl) (by rw [ha]; decide) hl (fun e h => List.all_eq_true.1 he e h) h
noncomputable def VG : Code := (Tryd.f98.body).getD .skip
def K5 : List (Nat × Nf) := []
def Va : List (Nat × List Nat) := []
def Vb : Nat → Ann
 | 0 => ⟨[0, 1], [], [], [], []⟩
 | 1 => ⟨[0, 1, 10], [], [], [], []⟩
 | 2 => ⟨[4], [], [], [], []⟩
 | 3 => ⟨[0, 1, 12, 13], [], [], [], []⟩
 | 4 => ⟨[0, 1, 12, 13, 14], [], [], [], []⟩
 | 5 => ⟨[0, 1, 5, 12, 13], [], [], [], []⟩
 | 6 => ⟨[0, 1, 12, 13, 24], [], [], [], []⟩
 | 7 => ⟨[4], [], [], [], []⟩
 | 8 => ⟨[0, 1, 12, 13], [], [], [], []⟩
 | 9 => ⟨[4], [], [], [], []⟩
 | _ => ⟨[], [], [], [], []⟩
noncomputable abbrev V8 : Cx := ⟨Tryd.prog, ⟨id, K5, Va⟩, Vb⟩
theorem XW {args : List PV} {r : PV} (ha : args.length = 2) (h : awp V8 VG (zS Tryd.prog [.tmp 4] r []) (zR args [])) : PC Tryd.prog 98 args r :=
 zK (X := V8) mixed Tryd.func98 (c := VG) (by kernel_rfl) (by kernel_rfl) (rs := [.tmp 4]) (by kernel_rfl) (by kernel_rfl) (by rw [ha]; decide) h
noncomputable def acm : Code := (Tryd.f99.body).getD .skip
def aae : List (Nat × Nf) := []
def aaP : List (Nat × List Nat) := []
def Y2 : Nat → Ann
 | 0 => ⟨[1, 2], [2], [], [], [2]⟩
 | 1 => ⟨[1, 2, 7], [2], [], [], [2]⟩
 | 2 => ⟨[1, 2, 7, 18], [2], [], [], [2]⟩
 | 3 => ⟨[4, 5], [], [], [], []⟩
 | 4 => ⟨[1, 2, 8], [2], [], [], [2]⟩
 | 5 => ⟨[2, 8, 20, 21, 22], [2], [], [], [2]⟩
 | 6 => ⟨[2, 8, 20, 21, 22, 23], [2], [], [], [2]⟩
 | 7 => ⟨[2, 8, 10, 20, 21, 22], [2], [], [], [2]⟩
 | 8 => ⟨[2, 8, 10, 20, 21, 22], [2], [], [], [2]⟩
 | 9 => ⟨[2, 8, 20, 21, 22], [2], [], [], [2]⟩
 | 10 => ⟨[2, 8, 20, 21, 22], [2], [], [], [2]⟩
 | 11 => ⟨[4, 5], [], [], [], []⟩
 | _ => ⟨[], [], [], [], []⟩
noncomputable abbrev abU : Cx := ⟨Tryd.prog, ⟨id, aae, aaP⟩, Y2⟩
theorem adT {args : List PV} {r : PV} (ha : args.length = 2) (h : awp abU acm (zS Tryd.prog [.tmp 4, .tmp 5] r []) (zR args [])) : PC Tryd.prog 99 args r :=
 zK (X := abU) mixed Tryd.func99 (c := acm) (by kernel_rfl) (by kernel_rfl) (rs := [.tmp 4, .tmp 5]) (by kernel_rfl) (by kernel_rfl) (by rw [ha]; decide) h
def aam : List (Nat × Nf) := []
def Y8 : List (Nat × List Nat) := [(31, [1001]), (32, [1000]), (42, [1001]), (43, [1000]), (71, [8]), (72, [8]), (73, [12]), (81, [1000]), (500006, [1001]), (500007, [1000])]
def aaj : Nat → Ann
 | 0 => ⟨[1, 2, 3, 6, 7], [3, 6, 7], [.nrm 6 [some 1, none, none, some 1, some 2, some 5, none, none]], [], [3, 6, 7]⟩
 | 1 => ⟨[1, 2, 3, 6, 7], [], [], [], []⟩
 | 2 => ⟨[1, 2, 3, 6, 7, 21], [3, 1000, 1001], [], [], [3, 1000, 1001]⟩
 | 3 => ⟨[6, 7], [1000, 1001], [], [], [1000, 1001]⟩
 | 4 => ⟨[1, 2, 3, 6, 7, 8], [3, 8, 1000, 1001], [], [], [3, 8, 1000, 1001]⟩
 | 5 => ⟨[1, 2, 3, 6, 7, 8, 30], [3, 8, 1000, 1001], [], [], [3, 8, 1000, 1001]⟩
 | 6 => ⟨[6, 7], [1000, 1001], [], [], [1000, 1001]⟩
 | 7 => ⟨[1, 2, 3, 6, 7, 8, 9], [3, 8, 9, 1000, 1001], [], [], [3, 8, 9, 1000, 1001]⟩
 | 8 => ⟨[1, 2, 3, 6, 7, 8, 9, 39], [3, 8, 9, 1000, 1001], [], [], [3, 8, 9, 1000, 1001]⟩
 | 9 => ⟨[6, 7], [1000, 1001], [], [], [1000, 1001]⟩
 | 10 => ⟨[1, 2, 3, 6, 7, 8, 9, 44], [3, 8, 9, 1000, 1001], [], [], [3, 8, 9, 1000, 1001]⟩
 | 11 => ⟨[6, 7], [1000, 1001], [], [], [1000, 1001]⟩
 | 12 => ⟨[1, 2, 3, 6, 7, 8, 49], [3, 8, 1000, 1001], [], [], [3, 8, 1000, 1001]⟩
 | 13 => ⟨[6, 7], [1000, 1001], [], [], [1000, 1001]⟩
 | 14 => ⟨[1, 2, 3, 6, 7, 8, 10], [3, 8, 1000, 1001], [], [], [3, 8, 1000, 1001]⟩
 | 15 => ⟨[1, 2, 6, 7, 8, 10, 12], [8, 12, 1000, 1001], [], [], [8, 12, 1000, 1001]⟩
 | 16 => ⟨[6, 7], [1000, 1001], [], [], [1000, 1001]⟩
 | _ => ⟨[], [], [], [], []⟩
noncomputable abbrev JV : Cx := ⟨Tryd.prog, ⟨id, aam, Y8⟩, aaj⟩
noncomputable def aaz : Code := match Tryd.f72.body with | some (.seq c _) => c | _ => .skip
noncomputable def aaF : Code := match Tryd.f72.body with | some (.seq _ (.seq _ c)) => c | _ => .skip
noncomputable def ahr : Oper := match Tryd.f72.body with | some (.seq _ (.seq (.region _ ops _) _)) => (ops[0]?).getD ⟨none, .move (.tmp 0), 0, "", #[], none⟩ | _ => ⟨none, .move (.tmp 0), 0, "", #[], none⟩
noncomputable def ai8 : Oper := match Tryd.f72.body with | some (.seq _ (.seq (.region _ ops _) _)) => (ops[1]?).getD ⟨none, .move (.tmp 0), 0, "", #[], none⟩ | _ => ⟨none, .move (.tmp 0), 0, "", #[], none⟩
theorem adV {args : List PV} {r : PV} (ha : args.length = 3) (h : awp JV aaz (midD JV 96 13 7 6 aaF [.cell 6 123, .cell 7 31] r) (zR args [])) : PC Tryd.prog 72 args r :=
 aoK (X := JV) (id := 1) (o1 := ahr) (o2 := ai8) (c0 := aaz) (c1 := aaF) mixed Tryd.func72 (by kernel_rfl) ⟨by rfl, by rfl, by rfl⟩ ⟨⟨_, by rfl⟩, by rfl, by rfl⟩ (by kernel_rfl) ⟨_, Tryd.func96, by kernel_rfl, by kernel_rfl⟩ (rs := [.cell 6 123, .cell 7 31]) (by kernel_rfl) (by kernel_rfl) (by kernel_rfl) (by rw [ha]; decide) (by decide) h
noncomputable def abQ : Code := (Tryd.f73.body).getD .skip
def Y3 : List (Nat × Nf) := []
def aaU : List (Nat × List Nat) := [(44, []), (45, []), (48, []), (49, []), (75, []), (76, []), (79, []), (80, []), (81, [11]), (82, [9]), (83, [9]), (500081, [11]), (500083, [9])]
def aag : Nat → Ann
 | 0 => ⟨[0, 1], [], [], [], []⟩
 | 1 => ⟨[0, 1, 19], [], [], [], []⟩
 | 2 => ⟨[4, 5, 6], [], [.nrm 4 [some 5], .nrm 5 [some 5]], [], []⟩
 | 3 => ⟨[0, 1, 7], [], [], [], []⟩
 | 4 => ⟨[0, 1, 7, 32], [], [], [], []⟩
 | 5 => ⟨[0, 1, 7], [], [], [], []⟩
 | 6 => ⟨[0, 1, 7], [], [], [], []⟩
 | 7 => ⟨[0, 1, 7, 8, 9], [45, 49], [], [.ren 45 8, .ren 49 9], [8, 9, 45, 49]⟩
 | 8 => ⟨[0, 1, 7, 8, 9, 50], [8, 9], [], [], [8, 9]⟩
 | 9 => ⟨[4, 5, 6], [8, 9], [], [.ren 8 4, .ren 9 5], [4, 5, 8, 9]⟩
 | 10 => ⟨[0, 1, 7, 8, 9, 55], [8, 9], [], [], [8, 9]⟩
 | 11 => ⟨[4, 5, 6], [], [.nrm 4 [some 5], .nrm 5 [some 5]], [], []⟩
 | 12 => ⟨[0, 1, 7, 8, 9, 10], [8, 9], [], [], [8, 9]⟩
 | 13 => ⟨[1, 8, 9, 10, 11], [8, 9, 11], [], [], [8, 9, 11]⟩
 | 14 => ⟨[8, 9, 11], [8, 9, 11], [], [], [8, 9, 11]⟩
 | 15 => ⟨[4, 5, 6], [8, 9], [], [.ren 8 4, .ren 9 5], [4, 5, 8, 9]⟩
 | _ => ⟨[], [], [], [], []⟩
noncomputable abbrev ab1 : Cx := ⟨Tryd.prog, ⟨id, Y3, aaU⟩, aag⟩
theorem aew {args : List PV} {r : PV} (ha : args.length = 2) (h : awp ab1 abQ (zS Tryd.prog [.tmp 4, .tmp 5, .tmp 6] r []) (zR args [])) : PC Tryd.prog 73 args r :=
 zK (X := ab1) mixed Tryd.func73 (c := abQ) (by kernel_rfl) (by kernel_rfl) (rs := [.tmp 4, .tmp 5, .tmp 6]) (by kernel_rfl) (by kernel_rfl) (by rw [ha]; decide) h
noncomputable def ZN : Code := (Tryd.f83.body).getD .skip
def Zu : List (Nat × Nf) := []
def Zr : List (Nat × List Nat) := []
def Zw : Nat → Ann
 | 0 => ⟨[0], [], [], [], []⟩
 | 1 => ⟨[0, 3], [], [], [], []⟩
 | 2 => ⟨[0, 3, 9, 10, 11], [], [], [], []⟩
 | 3 => ⟨[0, 3, 9, 10, 11, 12], [], [], [], []⟩
 | 4 => ⟨[0, 3, 5, 9, 10, 11], [], [], [], []⟩
 | 5 => ⟨[0, 3, 9, 10, 11], [], [], [], []⟩
 | 6 => ⟨[0, 3, 9, 10, 11, 20], [], [], [], []⟩
 | 7 => ⟨[0, 3, 9, 10, 11], [], [], [], []⟩
 | 8 => ⟨[0, 3, 9, 10, 11], [], [], [], []⟩
 | 9 => ⟨[0, 6], [24], [], [.ren 24 6], [6, 24]⟩
 | 10 => ⟨[6, 25, 26, 27], [6], [], [], [6]⟩
 | 11 => ⟨[6, 25, 26, 27, 28], [6], [], [], [6]⟩
 | 12 => ⟨[6, 8, 25, 26, 27], [6], [], [], [6]⟩
 | 13 => ⟨[6, 25, 26, 27], [6], [], [], [6]⟩
 | 14 => ⟨[6, 25, 26, 27], [6], [], [], [6]⟩
 | 15 => ⟨[2], [6], [], [.ren 6 2], [2, 6]⟩
 | _ => ⟨[], [], [], [], []⟩
noncomputable abbrev Z6 : Cx := ⟨Tryd.prog, ⟨id, Zu, Zr⟩, Zw⟩
theorem KT {args : List PV} {r : PV} (ha : args.length = 1) (h : awp Z6 ZN (zS Tryd.prog [.tmp 2] r []) (zR args [])) : PC Tryd.prog 83 args r :=
 zK (X := Z6) mixed Tryd.func83 (c := ZN) (by kernel_rfl) (by kernel_rfl) (rs := [.tmp 2]) (by kernel_rfl) (by kernel_rfl) (by rw [ha]; decide) h
noncomputable def agh : Code := (Tryd.f49.body).getD .skip
def ac0 : List (Nat × Nf) := [(33, [none, none, some 1, some 2, none]), (37, [none, none, some 1, some 2, some 5]), (40, [none, none, some 1, some 2, some 5]), (83, [none, none, some 1, some 2, some 5])]
def aej : List (Nat × List Nat) := []
def ads : Nat → Ann
 | 0 => ⟨[1, 2, 3, 4, 8], [4, 8], [.nrm 8 [none, none, some 1, some 2, some 5]], [], [4, 8]⟩
 | 1 => ⟨[3, 4, 8, 10, 11], [4, 8, 10], [], [], [4, 8, 10]⟩
 | 2 => ⟨[3, 4, 8, 10, 11, 36], [4, 8, 10], [], [], [4, 8, 10]⟩
 | 3 => ⟨[8, 9], [8], [], [], [8]⟩
 | 4 => ⟨[3, 4, 8, 10, 11, 39], [4, 8, 10], [], [], [4, 8, 10]⟩
 | 5 => ⟨[8, 9], [8], [], [], [8]⟩
 | 6 => ⟨[3, 4, 8, 10, 12], [4, 8, 10], [], [], [4, 8, 10]⟩
 | 7 => ⟨[3, 4, 8, 10, 12, 16], [4, 8, 10], [], [], [4, 8, 10]⟩
 | 8 => ⟨[4, 8, 10], [4, 8, 10], [], [], [4, 8, 10]⟩
 | 9 => ⟨[8, 18], [8, 18], [], [], [8, 18]⟩
 | 10 => ⟨[8, 18, 20], [8, 18], [], [], [8, 18]⟩
 | 11 => ⟨[8, 18, 20, 82], [8, 18], [], [], [8, 18]⟩
 | 12 => ⟨[8, 9], [8], [], [], [8]⟩
 | 13 => ⟨[8, 9], [8], [], [], [8]⟩
 | _ => ⟨[], [], [], [], []⟩
noncomputable abbrev afL : Cx := ⟨Tryd.prog, ⟨id, ac0, aej⟩, ads⟩
theorem agY {args : List PV} {r : PV} (ha : args.length = 4) (h : awp afL agh (zS Tryd.prog [.cell 8 28, .tmp 9] r []) (zR args [])) : PC Tryd.prog 49 args r :=
 zK (X := afL) mixed Tryd.func49 (c := agh) (by kernel_rfl) (by kernel_rfl) (rs := [.cell 8 28, .tmp 9]) (by kernel_rfl) (by kernel_rfl) (by rw [ha]; decide) h
noncomputable def aef : Code := (Tryd.f17.body).getD .skip
def ab0 : List (Nat × Nf) := [(16, [none, none, some 1, some 2, some 5]), (26, [none, none, some 1, some 2, some 5])]
def abx : List (Nat × List Nat) := []
def abP : Nat → Ann
 | 0 => ⟨[2, 3, 4], [2, 3, 4], [.nrm 4 [none, none, some 1, some 2, some 5]], [], [2, 3, 4]⟩
 | 1 => ⟨[2, 3, 4, 12], [2, 3, 4], [], [], [2, 3, 4]⟩
 | 2 => ⟨[4, 5], [4], [], [], [4]⟩
 | 3 => ⟨[2, 3, 4, 17], [2, 3, 4], [], [], [2, 3, 4]⟩
 | 4 => ⟨[4, 5], [4], [], [], [4]⟩
 | 5 => ⟨[2, 3, 4, 27], [2, 3, 4], [], [], [2, 3, 4]⟩
 | 6 => ⟨[4, 5], [4], [], [], [4]⟩
 | 7 => ⟨[2, 3, 4, 41], [2, 3, 4], [], [], [2, 3, 4]⟩
 | 8 => ⟨[4, 6, 8], [4, 6], [], [], [4, 6]⟩
 | 9 => ⟨[4, 5], [4], [], [], [4]⟩
 | 10 => ⟨[4, 9, 11], [4, 9], [], [], [4, 9]⟩
 | 11 => ⟨[4, 5], [4], [], [], [4]⟩
 | _ => ⟨[], [], [], [], []⟩
noncomputable abbrev aet : Cx := ⟨Tryd.prog, ⟨id, ab0, abx⟩, abP⟩
theorem ae4 {args : List PV} {r : PV} (ha : args.length = 2) (h : awp aet aef (zS Tryd.prog [.cell 4 28, .tmp 5] r []) (zR args [])) : PC Tryd.prog 17 args r :=
 zK (X := aet) mixed Tryd.func17 (c := aef) (by kernel_rfl) (by kernel_rfl) (rs := [.cell 4 28, .tmp 5]) (by kernel_rfl) (by kernel_rfl) (by rw [ha]; decide) h
noncomputable def ahp : Code := (Tryd.f14.body).getD .skip
def af9 : List (Nat × Nf) := [(23, [none, none, some 1, some 2, some 5])]
def agu : List (Nat × List Nat) := []
def af3 : Nat → Ann
 | 0 => ⟨[1, 2, 4], [2, 4], [.nrm 4 [none, none, some 1, some 2, some 5]], [], [2, 4]⟩
 | 1 => ⟨[1, 2, 4], [2, 4], [], [], [2, 4]⟩
 | 2 => ⟨[2, 4, 9, 10, 11], [2, 4], [], [], [2, 4]⟩
 | 3 => ⟨[2, 4, 9, 10, 11, 12], [2, 4], [], [], [2, 4]⟩
 | 4 => ⟨[2, 4, 8, 9, 10, 11], [2, 4, 8], [], [], [2, 4, 8]⟩
 | 5 => ⟨[2, 4, 6, 9, 10, 11], [2, 4], [], [], [2, 4]⟩
 | 6 => ⟨[2, 4, 6, 9, 10, 11, 22], [2, 4], [], [], [2, 4]⟩
 | 7 => ⟨[4, 5], [4], [], [], [4]⟩
 | 8 => ⟨[2, 4, 9, 10, 11], [2, 4], [], [], [2, 4]⟩
 | 9 => ⟨[4, 5], [4], [], [], [4]⟩
 | _ => ⟨[], [], [], [], []⟩
noncomputable abbrev ahM : Cx := ⟨Tryd.prog, ⟨id, af9, agu⟩, af3⟩
theorem ahs {args : List PV} {r : PV} (ha : args.length = 2) (h : awp ahM ahp (zS Tryd.prog [.cell 4 28, .tmp 5] r []) (zR args [])) : PC Tryd.prog 14 args r :=
 zK (X := ahM) mixed Tryd.func14 (c := ahp) (by kernel_rfl) (by kernel_rfl) (rs := [.cell 4 28, .tmp 5]) (by kernel_rfl) (by kernel_rfl) (by rw [ha]; decide) h
noncomputable def agn : Code := (Tryd.f45.body).getD .skip
def adY : List (Nat × Nf) := []
def aeC : List (Nat × List Nat) := []
def adr : Nat → Ann
 | 0 => ⟨[1, 2, 3], [3], [], [], [3]⟩
 | 1 => ⟨[8, 9], [8], [], [], [8]⟩
 | 2 => ⟨[8, 9, 23], [8], [], [], [8]⟩
 | 3 => ⟨[6, 7], [], [.nrm 6 [some 5]], [], []⟩
 | 4 => ⟨[8, 10], [8], [], [], [8]⟩
 | 5 => ⟨[9, 14], [], [], [], []⟩
 | 6 => ⟨[6, 7], [], [], [], []⟩
 | _ => ⟨[], [], [], [], []⟩
noncomputable abbrev agx : Cx := ⟨Tryd.prog, ⟨id, adY, aeC⟩, adr⟩
theorem agO {args : List PV} {r : PV} (ha : args.length = 3) (h : awp agx agn (zS Tryd.prog [.tmp 6, .tmp 7] r []) (zR args [])) : PC Tryd.prog 45 args r :=
 zK (X := agx) mixed Tryd.func45 (c := agn) (by kernel_rfl) (by kernel_rfl) (rs := [.tmp 6, .tmp 7]) (by kernel_rfl) (by kernel_rfl) (by rw [ha]; decide) h
noncomputable def afP : Code := (Tryd.f16.body).getD .skip
def ac5 : List (Nat × Nf) := [(68, [none, none, none, some 5, none, none]), (98, [none, none, none, some 5, none, none])]
def adU : List (Nat × List Nat) := []
def adw : Nat → Ann
 | 0 => ⟨[2, 3], [2, 3], [], [], [2, 3]⟩
 | 1 => ⟨[2, 3, 7], [2, 3], [], [], [2, 3]⟩
 | 2 => ⟨[2, 3, 7, 27], [2, 3], [], [], [2, 3]⟩
 | 3 => ⟨[4, 5], [], [.nrm 4 [some 6]], [], []⟩
 | 4 => ⟨[2, 3, 30], [2, 3], [], [], [2, 3]⟩
 | 5 => ⟨[2, 3, 30, 31], [2, 3], [], [], [2, 3]⟩
 | 6 => ⟨[3, 8, 9], [3], [], [], [3]⟩
 | 7 => ⟨[4, 5], [52], [], [.ren 52 4], [4, 52]⟩
 | 8 => ⟨[2, 3, 54], [2, 3], [], [], [2, 3]⟩
 | 9 => ⟨[3, 11, 12], [3], [], [], [3]⟩
 | 10 => ⟨[4, 5], [69], [], [.ren 69 4], [4, 69]⟩
 | 11 => ⟨[2, 3, 13], [2, 3], [], [], [2, 3]⟩
 | 12 => ⟨[3, 13, 15, 16], [3], [], [], [3]⟩
 | 13 => ⟨[3, 13, 15, 16, 17], [3, 17], [.thaw 17 17 6], [], [3, 17]⟩
 | 14 => ⟨[3, 13, 16, 17, 81, 82, 83], [3, 17], [], [], [3, 17]⟩
 | 15 => ⟨[3, 13, 16, 17, 81, 82, 83, 84], [3, 17], [], [], [3, 17]⟩
 | 16 => ⟨[3, 13, 16, 17, 19, 81, 82, 83], [3, 17, 19], [], [], [3, 17, 19]⟩
 | 17 => ⟨[3, 13, 16, 17, 81, 82, 83], [3, 17], [], [], [3, 17]⟩
 | 18 => ⟨[3, 13, 16, 17, 81, 82, 83], [3, 17], [], [], [3, 17]⟩
 | 19 => ⟨[4, 5], [17], [], [.ren 17 4], [4, 17]⟩
 | _ => ⟨[], [], [], [], []⟩
noncomputable abbrev af4 : Cx := ⟨Tryd.prog, ⟨id, ac5, adU⟩, adw⟩
theorem agB {args : List PV} {r : PV} (ha : args.length = 2) (h : awp af4 afP (zS Tryd.prog [.tmp 4, .tmp 5] r []) (zR args [])) : PC Tryd.prog 16 args r :=
 zK (X := af4) mixed Tryd.func16 (c := afP) (by kernel_rfl) (by kernel_rfl) (rs := [.tmp 4, .tmp 5]) (by kernel_rfl) (by kernel_rfl) (by rw [ha]; decide) h
noncomputable def ZF : Code := (Tryd.f3.body).getD .skip
def Zv : List (Nat × Nf) := [(49, [some 6])]
def Zt : List (Nat × List Nat) := [(44, [8]), (47, [45]), (49, [45]), (500013, [13])]
def Zq : Nat → Ann
 | 0 => ⟨[0, 1, 2], [], [], [], []⟩
 | 1 => ⟨[0, 1, 2, 7], [], [], [], []⟩
 | 2 => ⟨[0, 1, 2, 25], [], [], [], []⟩
 | 3 => ⟨[6], [], [], [], []⟩
 | 4 => ⟨[1, 2, 8], [8], [], [], [8]⟩
 | 5 => ⟨[1, 2, 8, 9, 10], [8], [], [], [8]⟩
 | 6 => ⟨[1, 2, 8, 9, 10, 11, 12], [8], [], [], [8]⟩
 | 7 => ⟨[1, 2, 8, 9, 10, 12, 13, 14], [8, 13], [], [], [8, 13]⟩
 | 8 => ⟨[1, 8, 9, 69], [8], [], [], [8]⟩
 | 9 => ⟨[6], [], [], [], []⟩
 | 10 => ⟨[1, 9, 15], [15], [], [], [15]⟩
 | 11 => ⟨[1, 9, 15, 16], [15], [], [], [15]⟩
 | 12 => ⟨[1, 9, 15, 16, 74], [15], [], [], [15]⟩
 | 13 => ⟨[1, 9, 15, 16], [15], [], [], [15]⟩
 | 14 => ⟨[1, 9, 15, 16, 17, 18], [15], [], [], [15]⟩
 | 15 => ⟨[1, 9, 15, 16, 17, 18, 19, 20], [15, 19], [], [], [15, 19]⟩
 | 16 => ⟨[1, 9, 15, 16, 18, 19, 20, 21, 22], [15, 19, 21], [], [], [15, 19, 21]⟩
 | 17 => ⟨[1, 9, 15, 16, 19, 116], [15, 19], [], [], [15, 19]⟩
 | 18 => ⟨[6], [], [], [], []⟩
 | 19 => ⟨[1, 9, 15, 16], [15], [], [], [15]⟩
 | 20 => ⟨[6], [], [], [], []⟩
 | _ => ⟨[], [], [], [], []⟩
noncomputable abbrev ZV : Cx := ⟨Tryd.prog, ⟨id, Zv, Zt⟩, Zq⟩
theorem KU {args : List PV} {r : PV} (ha : args.length = 3) (h : awp ZV ZF (zS Tryd.prog [.tmp 6] r []) (zR args [])) : PC Tryd.prog 3 args r :=
 zK (X := ZV) mixed Tryd.func3 (c := ZF) (by kernel_rfl) (by kernel_rfl) (rs := [.tmp 6]) (by kernel_rfl) (by kernel_rfl) (by rw [ha]; decide) h
def aal : List (Nat × Nf) := []
def aax : List (Nat × List Nat) := [(39, [1000]), (40, [1000]), (41, [1000]), (43, [1000]), (44, [1000]), (45, [1000]), (47, [3]), (48, [3]), (50, [1000]), (51, [1000]), (52, [1000]), (53, [1000]), (55, []), (56, []), (57, []), (60, [59, 1001]), (61, [1000]), (62, [1000])]
def YX : Nat → Ann
 | 0 => ⟨[0, 8, 9, 10], [1000, 1001], [], [], [1000, 1001]⟩
 | 1 => ⟨[0, 8, 9, 10, 11], [1000, 1001], [], [], [1000, 1001]⟩
 | 2 => ⟨[0, 2, 3, 8, 9, 10], [3, 1000, 1001], [], [], [3, 1000, 1001]⟩
 | 3 => ⟨[0, 2, 3, 8, 9, 10, 36], [3, 1000, 1001], [], [], [3, 1000, 1001]⟩
 | 4 => ⟨[0, 8, 9, 10], [1000, 1001], [], [], [1000, 1001]⟩
 | 5 => ⟨[0, 8, 9, 10], [1000, 1001], [], [], [1000, 1001]⟩
 | _ => ⟨[], [], [], [], []⟩
attribute [go_sem] aaq aah aaO xe xg xh ada adt adC abF ack aco Q0 QH Wo acr abn acj adS acY aek ac8 adK adD ab2 abI aby aap aaB Y5 abG abL abu acb abz ab6 acn acg abX Yp Yq YA vG vH vI acf abB abN ZE ZB ZP vV jd vX adH adi ad2 WB WL WC aiD aiv ahK We Q3 Wi ZZ Z8 Z4 ZR ZK ZY adv adZ ad5 abq abr abA WN WA Wx Kr KN KQ ZX ZO ZM KW Vh Vi KA Kz Ku Kt Kq KD K4 Vd Ve KV Vf K6 aaf YU YR Xz Xt Xo Y6 aaT aaL Yz Yx Yu xW xS xU ace abv abW agp afZ agq Wj Q4 QS ZG ZT ZJ Wd Q9 QZ ado ad1 adz QV Q5 Wp acp abR abo abt abM abS VE VY V9 Vb K5 Va Y2 aae aaP aaj aam Y8 aag Y3 aaU Zw Zu Zr ads ac0 aej abP ab0 abx af3 af9 agu adr adY aeC adw ac5 adU Zq Zv Zt YX aal aax ty3 ty4 ty5 ty9 azh azm azA azl azq ayK azi azt azB azs azx azk azf azn azz azv axX azb ax1 ayf zx.xY ze.xY za.xY zo.xY jb.xY qU.xY wG.xY zt.xY xC.xY pvL
theorem pvE : (∀ x : zx, x.pv = .agg [.int .i64 x.Text, .int .i64 x.Marks, .int .i64 x.zh, .int .i64 x.In]) ∧ (∀ x : ze, x.pv = .agg [.str x.Name, .str x.Value]) ∧ (∀ x : za, x.pv = .agg [.str x.Kind, .str x.Text, .list 1 (x.Marks.map PV.str), .list 2 (x.zh.map ze.pv), .list 5 (x.Kids.map za.pv)]) ∧ (∀ x : zo, x.pv = .agg [.int .u8 x.Kind, .int .i64 x.From, .int .i64 x.To, .list 5 (x.kF.map za.pv), .str x.Name, .str x.Value]) ∧ (∀ x : jb, x.pv = .agg [.str x.a.Kind, .str x.a.Text, .list 1 (x.a.Marks.map PV.str), .list 2 (x.a.zh.map ze.pv), .list 5 (x.a.Kids.map za.pv), .str x.b.Kind, .str x.b.Text, .list 1 (x.b.Marks.map PV.str), .list 2 (x.b.zh.map ze.pv), .list 5 (x.b.Kids.map za.pv), .list 1 (x.path.map (PV.int .i64)), .int .i64 x.at_, .int .i64 x.head, .int .i64 x.m, .int .i64 x.n, .list 6 (x.attrs.map zo.pv)]) ∧ (∀ x : qU, x.pv = .agg [.list 1 (x.path.map (PV.int .i64)), .str x.in_.Kind, .str x.in_.Text, .list 1 (x.in_.Marks.map PV.str), .list 2 (x.in_.zh.map ze.pv), .list 5 (x.in_.Kids.map za.pv), .int .i64 x.from_, .int .i64 x.to_]) ∧ (∀ x : wG, x.pv = .agg [.list 1 (x.Path.map (PV.int .i64)), .int .i64 x.Index, .int .i64 x.Offset]) ∧ (∀ x : zt, x.pv = .agg [.int .i64 x.Pos, .int .i64 x.Old, .int .i64 x.New]) ∧ (∀ x : xC, x.pv = .agg [.int .u8 x.s.Kind, .int .i64 x.s.From, .int .i64 x.s.To, .list 5 (x.s.kF.map za.pv), .str x.s.Name, .str x.s.Value, .list 3 (x.changed.map zt.pv)]) ∧ (∀ (α : Type) (sz : Nat) (f : α → PV) (l : List α), pvL sz f l = .list sz (l.map f)) :=
 ⟨zx.xY, ze.xY, za.xY, zo.xY, jb.xY, qU.xY, wG.xY, zt.xY, xC.xY, fun _ _ _ _ => rfl⟩
theorem lsE {α β : Type} (f : α → β) : (∀ a l, List.map f (a :: l) = f a :: List.map f l) ∧ List.map f [] = [] ∧ (∀ a b, List.map f (a ++ b) = List.map f a ++ List.map f b) :=
 ⟨fun _ _ => rfl, rfl, fun a b => List.map_append⟩
end Go.Proofs.YtclohbgnaopjfaaDoor
