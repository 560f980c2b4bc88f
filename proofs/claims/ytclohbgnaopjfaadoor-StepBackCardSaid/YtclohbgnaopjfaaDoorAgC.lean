/- Texts of the proof of stepBackCard -/
import Derived.Test.YtclohbgnaopjfaaDoorAgT
import Derived.Test.YtclohbgnaopjfaaDoorAwT
namespace Go.Proofs.YtclohbgnaopjfaaDoor
set_option linter.unusedSimpArgs false
set_option linter.unusedVariables false
open Go
set_option maxRecDepth 100000
noncomputable def abj : Code := (Tryd.f58.body).getD .skip
def YJ : List (Nat × Nf) := []
def Yq : List (Nat × List Nat) := []
def YL : Nat → Ann
 | 0 => ⟨[1], [1], [], [], [1]⟩
 | 1 => ⟨[2], [], [], [], []⟩
 | _ => ⟨[], [], [], [], []⟩
noncomputable abbrev abt : Cx := ⟨Tryd.prog, ⟨id, YJ, Yq⟩, YL⟩
theorem acN {args : List PV} {r : PV} (ha : args.length = 1) (h : awp abt abj (zS Tryd.prog [.tmp 2] r []) (zR args [])) : PC Tryd.prog 58 args r :=
 zK (X := abt) mixed Tryd.func58 (c := abj) (by kernel_rfl) (by kernel_rfl) (rs := [.tmp 2]) (by kernel_rfl) (by kernel_rfl) (by rw [ha]; decide) h
noncomputable def xh : Code := (Tryd.f63.body).getD .skip
def jR : List (Nat × Nf) := []
def jS : List (Nat × List Nat) := []
def jT : Nat → Ann
 | 0 => ⟨[0, 2], [], [], [], []⟩
 | 1 => ⟨[2, 4], [4], [], [], [4]⟩
 | 2 => ⟨[2, 4, 6], [4], [], [], [4]⟩
 | 3 => ⟨[2, 4], [4], [], [], [4]⟩
 | 4 => ⟨[2], [], [], [], []⟩
 | _ => ⟨[], [], [], [], []⟩
noncomputable abbrev j6 : Cx := ⟨Tryd.prog, ⟨id, jR, jS⟩, jT⟩
theorem Ze {args : List PV} {r : PV} (ha : args.length = 1) (h : awp j6 xh (zS Tryd.prog [.tmp 2] r []) (zR args [])) : PC Tryd.prog 63 args r :=
 zK (X := j6) mixed Tryd.func63 (c := xh) (by kernel_rfl) (by kernel_rfl) (rs := [.tmp 2]) (by kernel_rfl) (by kernel_rfl) (by rw [ha]; decide) h
noncomputable def acB : Code := (Tryd.f27.body).getD .skip
def abP : List (Nat × Nf) := []
def abM : List (Nat × List Nat) := []
def aaP : Nat → Ann
 | 0 => ⟨[0], [], [], [], []⟩
 | 1 => ⟨[0, 3], [], [], [], []⟩
 | 2 => ⟨[3, 6, 7, 8], [], [], [], []⟩
 | 3 => ⟨[3, 6, 7, 8, 9], [], [], [], []⟩
 | 4 => ⟨[3, 5, 6, 7, 8], [5], [], [], [5]⟩
 | 5 => ⟨[3, 6, 7, 8], [], [], [], []⟩
 | 6 => ⟨[3, 6, 7, 8], [], [], [], []⟩
 | 7 => ⟨[2], [], [], [], []⟩
 | _ => ⟨[], [], [], [], []⟩
noncomputable abbrev acE : Cx := ⟨Tryd.prog, ⟨id, abP, abM⟩, aaP⟩
theorem aef {args : List PV} {r : PV} (ha : args.length = 1) (h : awp acE acB (zS Tryd.prog [.tmp 2] r []) (zR args [])) : PC Tryd.prog 27 args r :=
 zK (X := acE) mixed Tryd.func27 (c := acB) (by kernel_rfl) (by kernel_rfl) (rs := [.tmp 2]) (by kernel_rfl) (by kernel_rfl) (by rw [ha]; decide) h
noncomputable def afX : Code := (Tryd.f34.body).getD .skip
def ad1 : List (Nat × Nf) := []
def acI : List (Nat × List Nat) := []
def ac2 : Nat → Ann
 | 0 => ⟨[1], [1], [], [], [1]⟩
 | 1 => ⟨[1, 4], [1], [], [], [1]⟩
 | 2 => ⟨[2], [], [], [], []⟩
 | 3 => ⟨[2], [], [], [], []⟩
 | _ => ⟨[], [], [], [], []⟩
noncomputable abbrev afn : Cx := ⟨Tryd.prog, ⟨id, ad1, acI⟩, ac2⟩
theorem af4 {args : List PV} {r : PV} (ha : args.length = 1) (h : awp afn afX (zS Tryd.prog [.tmp 2] r []) (zR args [])) : PC Tryd.prog 34 args r :=
 zK (X := afn) mixed Tryd.func34 (c := afX) (by kernel_rfl) (by kernel_rfl) (rs := [.tmp 2]) (by kernel_rfl) (by kernel_rfl) (by rw [ha]; decide) h
noncomputable def Q5 : Code := (Tryd.f42.body).getD .skip
def Qo : List (Nat × Nf) := []
def Qz : List (Nat × List Nat) := []
def Qw : Nat → Ann
 | 0 => ⟨[0, 1], [], [], [], []⟩
 | 1 => ⟨[0, 1, 10], [], [], [], []⟩
 | 2 => ⟨[4], [], [], [], []⟩
 | 3 => ⟨[0, 1, 12, 13], [], [], [], []⟩
 | 4 => ⟨[0, 1, 12, 13, 14], [], [], [], []⟩
 | 5 => ⟨[0, 1, 5, 12, 13], [], [], [], []⟩
 | 6 => ⟨[0, 1, 12, 13, 24], [], [], [], []⟩
 | 7 => ⟨[4], [], [], [], []⟩
 | 8 => ⟨[0, 1, 12, 13], [], [], [], []⟩
 | 9 => ⟨[4], [], [], [], []⟩
 | _ => ⟨[], [], [], [], []⟩
noncomputable abbrev QZ : Cx := ⟨Tryd.prog, ⟨id, Qo, Qz⟩, Qw⟩
theorem VW {args : List PV} {r : PV} (ha : args.length = 2) (h : awp QZ Q5 (zS Tryd.prog [.tmp 4] r []) (zR args [])) : PC Tryd.prog 42 args r :=
 zK (X := QZ) mixed Tryd.func42 (c := Q5) (by kernel_rfl) (by kernel_rfl) (rs := [.tmp 4]) (by kernel_rfl) (by kernel_rfl) (by rw [ha]; decide) h
noncomputable def adN : Code := (Tryd.f104.body).getD .skip
def aba : List (Nat × Nf) := []
def abh : List (Nat × List Nat) := []
def abe : Nat → Ann
 | 0 => ⟨[2, 3], [2, 3], [], [], [2, 3]⟩
 | 1 => ⟨[4], [], [], [], []⟩
 | _ => ⟨[], [], [], [], []⟩
noncomputable abbrev acR : Cx := ⟨Tryd.prog, ⟨id, aba, abh⟩, abe⟩
theorem ae1 {args : List PV} {r : PV} (ha : args.length = 2) (h : awp acR adN (zS Tryd.prog [.tmp 4] r []) (zR args [])) : PC Tryd.prog 104 args r :=
 zK (X := acR) mixed Tryd.func104 (c := adN) (by kernel_rfl) (by kernel_rfl) (rs := [.tmp 4]) (by kernel_rfl) (by kernel_rfl) (by rw [ha]; decide) h
noncomputable def afH : Code := (Tryd.f80.body).getD .skip
def adL : List (Nat × Nf) := []
def acT : List (Nat × List Nat) := []
def adT : Nat → Ann
 | 0 => ⟨[0], [], [], [], []⟩
 | 1 => ⟨[0, 3], [], [], [], []⟩
 | 2 => ⟨[2], [], [], [], []⟩
 | _ => ⟨[], [], [], [], []⟩
noncomputable abbrev afL : Cx := ⟨Tryd.prog, ⟨id, adL, acT⟩, adT⟩
theorem agc {args : List PV} {r : PV} (ha : args.length = 1) (h : awp afL afH (zS Tryd.prog [.tmp 2] r []) (zR args [])) : PC Tryd.prog 80 args r :=
 zK (X := afL) mixed Tryd.func80 (c := afH) (by kernel_rfl) (by kernel_rfl) (rs := [.tmp 2]) (by kernel_rfl) (by kernel_rfl) (by rw [ha]; decide) h
noncomputable def afw : Code := (Tryd.f111.body).getD .skip
def ac9 : List (Nat × Nf) := []
def adJ : List (Nat × List Nat) := []
def ac7 : Nat → Ann
 | 0 => ⟨[0], [], [], [], []⟩
 | 1 => ⟨[0, 5, 6, 7], [], [], [], []⟩
 | 2 => ⟨[0, 5, 6, 7, 8], [], [], [], []⟩
 | 3 => ⟨[0, 3, 4, 5, 6, 7], [], [], [], []⟩
 | 4 => ⟨[0, 5, 6, 7, 27], [], [], [], []⟩
 | 5 => ⟨[2], [], [], [], []⟩
 | 6 => ⟨[0, 5, 6, 7], [], [], [], []⟩
 | 7 => ⟨[2], [], [], [], []⟩
 | _ => ⟨[], [], [], [], []⟩
noncomputable abbrev afi : Cx := ⟨Tryd.prog, ⟨id, ac9, adJ⟩, ac7⟩
theorem af7 {args : List PV} {r : PV} (ha : args.length = 1) (h : awp afi afw (zS Tryd.prog [.tmp 2] r []) (zR args [])) : PC Tryd.prog 111 args r :=
 zK (X := afi) mixed Tryd.func111 (c := afw) (by kernel_rfl) (by kernel_rfl) (rs := [.tmp 2]) (by kernel_rfl) (by kernel_rfl) (by rw [ha]; decide) h
noncomputable def adX : Code := (Tryd.f81.body).getD .skip
def abd : List (Nat × Nf) := []
def aa3 : List (Nat × List Nat) := []
def abR : Nat → Ann
 | 0 => ⟨[0], [], [], [], []⟩
 | 1 => ⟨[2], [], [], [], []⟩
 | _ => ⟨[], [], [], [], []⟩
noncomputable abbrev ad8 : Cx := ⟨Tryd.prog, ⟨id, abd, aa3⟩, abR⟩
theorem aer {args : List PV} {r : PV} (ha : args.length = 1) (h : awp ad8 adX (zS Tryd.prog [.tmp 2] r []) (zR args [])) : PC Tryd.prog 81 args r :=
 zK (X := ad8) mixed Tryd.func81 (c := adX) (by kernel_rfl) (by kernel_rfl) (rs := [.tmp 2]) (by kernel_rfl) (by kernel_rfl) (by rw [ha]; decide) h
noncomputable def aaW : Code := (Tryd.f93.body).getD .skip
def YW : List (Nat × Nf) := []
def YZ : List (Nat × List Nat) := []
def YN : Nat → Ann
 | 0 => ⟨[1], [1], [], [], [1]⟩
 | 1 => ⟨[1, 9], [1], [], [], [1]⟩
 | 2 => ⟨[2], [], [], [], []⟩
 | 3 => ⟨[1, 3], [1, 3], [.thaw 3 3 1], [], [1, 3]⟩
 | 4 => ⟨[1, 3, 34, 35, 36], [1, 3], [], [], [1, 3]⟩
 | 5 => ⟨[1, 3, 34, 35, 36, 37], [1, 3], [], [], [1, 3]⟩
 | 6 => ⟨[1, 3, 5, 34, 35, 36], [1, 3, 5], [], [], [1, 3, 5]⟩
 | 7 => ⟨[1, 3, 5, 34, 35, 36, 43], [1, 3, 5], [], [], [1, 3, 5]⟩
 | 8 => ⟨[2], [], [], [], []⟩
 | 9 => ⟨[1, 3, 34, 35, 36], [1, 3], [], [], [1, 3]⟩
 | 10 => ⟨[1, 3, 34, 35, 36], [1, 3], [], [], [1, 3]⟩
 | 11 => ⟨[1, 69], [1], [], [], [1]⟩
 | 12 => ⟨[2], [], [], [], []⟩
 | 13 => ⟨[1, 71, 72, 73], [1], [], [], [1]⟩
 | 14 => ⟨[1, 71, 72, 73, 74], [1], [], [], [1]⟩
 | 15 => ⟨[1, 6, 7, 71, 72, 73], [1, 7], [], [], [1, 7]⟩
 | 16 => ⟨[1, 71, 72, 73, 94], [1], [], [], [1]⟩
 | 17 => ⟨[2], [], [], [], []⟩
 | 18 => ⟨[1, 71, 72, 73], [1], [], [], [1]⟩
 | 19 => ⟨[2], [], [], [], []⟩
 | _ => ⟨[], [], [], [], []⟩
noncomputable abbrev aa6 : Cx := ⟨Tryd.prog, ⟨id, YW, YZ⟩, YN⟩
theorem acS {args : List PV} {r : PV} (ha : args.length = 1) (h : awp aa6 aaW (zS Tryd.prog [.tmp 2] r []) (zR args [])) : PC Tryd.prog 93 args r :=
 zK (X := aa6) mixed Tryd.func93 (c := aaW) (by kernel_rfl) (by kernel_rfl) (rs := [.tmp 2]) (by kernel_rfl) (by kernel_rfl) (by rw [ha]; decide) h
noncomputable def ac4 : Code := (Tryd.f94.body).getD .skip
def aaZ : List (Nat × Nf) := []
def abn : List (Nat × List Nat) := []
def abw : Nat → Ann
 | 0 => ⟨[1], [1], [], [], [1]⟩
 | 1 => ⟨[1, 7], [1], [], [], [1]⟩
 | 2 => ⟨[2], [], [], [], []⟩
 | 3 => ⟨[1, 3], [1], [], [], [1]⟩
 | 4 => ⟨[3, 9, 10, 11], [], [], [], []⟩
 | 5 => ⟨[3, 9, 10, 11, 12], [], [], [], []⟩
 | 6 => ⟨[3, 5, 9, 10, 11], [5], [], [], [5]⟩
 | 7 => ⟨[3, 9, 10, 11], [], [], [], []⟩
 | 8 => ⟨[3, 9, 10, 11], [], [], [], []⟩
 | 9 => ⟨[2], [], [], [], []⟩
 | _ => ⟨[], [], [], [], []⟩
noncomputable abbrev adW : Cx := ⟨Tryd.prog, ⟨id, aaZ, abn⟩, abw⟩
theorem ae3 {args : List PV} {r : PV} (ha : args.length = 1) (h : awp adW ac4 (zS Tryd.prog [.tmp 2] r []) (zR args [])) : PC Tryd.prog 94 args r :=
 zK (X := adW) mixed Tryd.func94 (c := ac4) (by kernel_rfl) (by kernel_rfl) (rs := [.tmp 2]) (by kernel_rfl) (by kernel_rfl) (by rw [ha]; decide) h
noncomputable def adh : Code := (Tryd.f64.body).getD .skip
def aaY : List (Nat × Nf) := []
def abb : List (Nat × List Nat) := []
def abC : Nat → Ann
 | 0 => ⟨[1], [1], [], [], [1]⟩
 | 1 => ⟨[1, 3], [1], [], [], [1]⟩
 | 2 => ⟨[2], [], [], [], []⟩
 | 3 => ⟨[1, 7], [1], [], [], [1]⟩
 | 4 => ⟨[2], [], [], [], []⟩
 | 5 => ⟨[11], [], [], [], []⟩
 | 6 => ⟨[2], [], [], [], []⟩
 | 7 => ⟨[2], [], [], [], []⟩
 | _ => ⟨[], [], [], [], []⟩
noncomputable abbrev ac0 : Cx := ⟨Tryd.prog, ⟨id, aaY, abb⟩, abC⟩
theorem aek {args : List PV} {r : PV} (ha : args.length = 1) (h : awp ac0 adh (zS Tryd.prog [.tmp 2] r []) (zR args [])) : PC Tryd.prog 64 args r :=
 zK (X := ac0) mixed Tryd.func64 (c := adh) (by kernel_rfl) (by kernel_rfl) (rs := [.tmp 2]) (by kernel_rfl) (by kernel_rfl) (by rw [ha]; decide) h
noncomputable def adG : Code := (Tryd.f36.body).getD .skip
def abB : List (Nat × Nf) := []
def abl : List (Nat × List Nat) := []
def aaR : Nat → Ann
 | 0 => ⟨[1], [1], [], [], [1]⟩
 | 1 => ⟨[2], [], [], [], []⟩
 | _ => ⟨[], [], [], [], []⟩
noncomputable abbrev ad3 : Cx := ⟨Tryd.prog, ⟨id, abB, abl⟩, aaR⟩
theorem aeC {args : List PV} {r : PV} (ha : args.length = 1) (h : awp ad3 adG (zS Tryd.prog [.tmp 2] r []) (zR args [])) : PC Tryd.prog 36 args r :=
 zK (X := ad3) mixed Tryd.func36 (c := adG) (by kernel_rfl) (by kernel_rfl) (rs := [.tmp 2]) (by kernel_rfl) (by kernel_rfl) (by rw [ha]; decide) h
noncomputable def ZP : Code := (Tryd.f70.body).getD .skip
def Zm : List (Nat × Nf) := []
def ZC : List (Nat × List Nat) := []
def Zv : Nat → Ann
 | 0 => ⟨[0], [5], [], [], [5]⟩
 | 1 => ⟨[0, 4], [5], [], [], [5]⟩
 | 2 => ⟨[2], [5], [], [], [5]⟩
 | 3 => ⟨[2], [5], [], [], [5]⟩
 | _ => ⟨[], [], [], [], []⟩
noncomputable abbrev Qg : Cx := ⟨Tryd.prog, ⟨id, Zm, ZC⟩, Zv⟩
theorem Vd {args : List PV} {r : PV} (ha : args.length = 1) (h : awp Qg ZP (zS Tryd.prog [.tmp 2] r []) (zR args [])) : PC Tryd.prog 70 args r :=
 zK (X := Qg) mixed Tryd.func70 (c := ZP) (by kernel_rfl) (by kernel_rfl) (rs := [.tmp 2]) (by kernel_rfl) (by kernel_rfl) (by rw [ha]; decide) h
noncomputable def Vo : Code := (Tryd.f100.body).getD .skip
def KP : List (Nat × Nf) := []
def KH : List (Nat × List Nat) := []
def KQ : Nat → Ann
 | 0 => ⟨[0], [5], [], [], [5]⟩
 | 1 => ⟨[0, 4], [5], [], [], [5]⟩
 | 2 => ⟨[2], [5], [], [], [5]⟩
 | 3 => ⟨[2], [5], [], [], [5]⟩
 | _ => ⟨[], [], [], [], []⟩
noncomputable abbrev Vm : Cx := ⟨Tryd.prog, ⟨id, KP, KH⟩, KQ⟩
theorem XM {args : List PV} {r : PV} (ha : args.length = 1) (h : awp Vm Vo (zS Tryd.prog [.tmp 2] r []) (zR args [])) : PC Tryd.prog 100 args r :=
 zK (X := Vm) mixed Tryd.func100 (c := Vo) (by kernel_rfl) (by kernel_rfl) (rs := [.tmp 2]) (by kernel_rfl) (by kernel_rfl) (by rw [ha]; decide) h
noncomputable def aaQ : Code := (Tryd.f75.body).getD .skip
def YU : List (Nat × Nf) := [(28, [none, none, some 1, some 2, some 5]), (38, [none, none, some 1, some 2, some 5])]
def aao : List (Nat × List Nat) := []
def aaf : Nat → Ann
 | 0 => ⟨[1, 2, 4], [2, 4], [.nrm 4 [none, none, some 1, some 2, some 5]], [], [2, 4]⟩
 | 1 => ⟨[2, 4, 8, 9, 10], [2, 4], [], [], [2, 4]⟩
 | 2 => ⟨[2, 4, 8, 9, 10, 11], [2, 4], [], [], [2, 4]⟩
 | 3 => ⟨[2, 4, 7, 8, 9, 10], [2, 4], [], [], [2, 4]⟩
 | 4 => ⟨[2, 4, 7, 8, 9, 10, 27], [2, 4], [], [], [2, 4]⟩
 | 5 => ⟨[4, 5], [4], [], [], [4]⟩
 | 6 => ⟨[2, 4, 8, 9, 10], [2, 4], [], [], [2, 4]⟩
 | 7 => ⟨[2, 4, 8, 9, 10], [2, 4], [], [], [2, 4]⟩
 | 8 => ⟨[2, 4, 37], [2, 4], [], [], [2, 4]⟩
 | 9 => ⟨[4, 5], [4], [], [], [4]⟩
 | 10 => ⟨[4, 5], [4], [], [], [4]⟩
 | _ => ⟨[], [], [], [], []⟩
noncomputable abbrev aa7 : Cx := ⟨Tryd.prog, ⟨id, YU, aao⟩, aaf⟩
theorem adx {args : List PV} {r : PV} (ha : args.length = 2) (h : awp aa7 aaQ (zS Tryd.prog [.cell 4 28, .tmp 5] r []) (zR args [])) : PC Tryd.prog 75 args r :=
 zK (X := aa7) mixed Tryd.func75 (c := aaQ) (by kernel_rfl) (by kernel_rfl) (rs := [.cell 4 28, .tmp 5]) (by kernel_rfl) (by kernel_rfl) (by rw [ha]; decide) h
noncomputable def X6 : Code := (Tryd.f97.body).getD .skip
def JX : List (Nat × Nf) := [(24, [some 1, none, none]), (59, [some 1, none, none]), (65, [some 1, none, none]), (71, [some 1, none, none])]
def J9 : List (Nat × List Nat) := []
def Xe : Nat → Ann
 | 0 => ⟨[1, 2, 4], [2, 4], [.nrm 4 [some 1, none, none]], [], [2, 4]⟩
 | 1 => ⟨[1, 2, 4, 23], [2, 4], [], [], [2, 4]⟩
 | 2 => ⟨[4, 5], [4], [], [], [4]⟩
 | 3 => ⟨[1, 2, 4, 6], [2, 4, 6, 342], [.V7 6 0 342 1], [], [2, 4, 6, 342]⟩
 | 4 => ⟨[1, 2, 4, 6, 26, 27, 28], [2, 4, 6, 342], [], [], [2, 4, 6, 342]⟩
 | 5 => ⟨[1, 2, 4, 6, 26, 27, 28, 29], [2, 4, 6, 342], [], [], [2, 4, 6, 342]⟩
 | 6 => ⟨[1, 2, 4, 6, 7, 8, 26, 27, 28], [2, 4, 6, 8, 342], [], [], [2, 4, 6, 8, 342]⟩
 | 7 => ⟨[1, 2, 4, 6, 7, 8, 9, 26, 27, 28], [2, 4, 6, 8, 342], [], [], [2, 4, 6, 8, 342]⟩
 | 8 => ⟨[1, 2, 4, 6, 8], [2, 4, 6, 8, 342], [], [], [2, 4, 6, 8, 342]⟩
 | 9 => ⟨[1, 2, 4, 6], [2, 4, 6, 342], [], [], [2, 4, 6, 342]⟩
 | 10 => ⟨[1, 2, 4, 6, 7, 8, 9, 26, 27, 28, 44], [2, 4, 6, 8, 342], [], [], [2, 4, 6, 8, 342]⟩
 | 11 => ⟨[1, 2, 4, 6, 26, 27, 28], [2, 4, 6, 342], [], [], [2, 4, 6, 342]⟩
 | 12 => ⟨[1, 2, 4, 6, 7, 8, 51], [2, 4, 6, 8, 342], [], [], [2, 4, 6, 8, 342]⟩
 | 13 => ⟨[4, 6], [4, 6, 342], [], [], [4, 6, 342]⟩
 | 14 => ⟨[4, 5], [4], [], [], [4]⟩
 | 15 => ⟨[1, 2, 4, 6, 7, 8, 60], [2, 4, 6, 8, 342], [], [], [2, 4, 6, 8, 342]⟩
 | 16 => ⟨[4, 6], [4, 6, 342], [], [], [4, 6, 342]⟩
 | 17 => ⟨[4, 5], [4], [], [], [4]⟩
 | 18 => ⟨[1, 2, 4, 6, 26, 27, 28], [2, 4, 6, 342], [], [], [2, 4, 6, 342]⟩
 | 19 => ⟨[4, 6], [4, 6, 342], [], [], [4, 6, 342]⟩
 | 20 => ⟨[4, 5], [4], [], [], [4]⟩
 | _ => ⟨[], [], [], [], []⟩
noncomputable abbrev X3 : Cx := ⟨Tryd.prog, ⟨id, JX, J9⟩, Xe⟩
theorem aaK {args : List PV} {r : PV} (ha : args.length = 2) (h : awp X3 X6 (zS Tryd.prog [.cell 4 149, .tmp 5] r []) (zR args [])) : PC Tryd.prog 97 args r :=
 zK (X := X3) mixed Tryd.func97 (c := X6) (by kernel_rfl) (by kernel_rfl) (rs := [.cell 4 149, .tmp 5]) (by kernel_rfl) (by kernel_rfl) (by rw [ha]; decide) h
noncomputable def abp : Code := (Tryd.f74.body).getD .skip
def YV : List (Nat × Nf) := []
def Yn : List (Nat × List Nat) := [(24, [6]), (25, [6]), (26, []), (27, [6]), (28, [6]), (30, [26, 29])]
def Y5 : Nat → Ann
 | 0 => ⟨[1, 2], [2], [], [], [2]⟩
 | 1 => ⟨[1, 2, 10], [2], [], [], [2]⟩
 | 2 => ⟨[4, 5], [], [.nrm 4 [some 1]], [], []⟩
 | 3 => ⟨[2, 6, 7], [2, 6], [], [], [2, 6]⟩
 | 4 => ⟨[2, 6, 23], [2, 6], [], [], [2, 6]⟩
 | 5 => ⟨[4, 5], [], [.nrm 4 [some 1]], [], []⟩
 | 6 => ⟨[2, 8], [2, 26], [], [.ren 26 8], [2, 8, 26]⟩
 | 7 => ⟨[7, 8], [8], [], [], [8]⟩
 | 8 => ⟨[4, 5], [8], [], [.ren 8 4], [4, 8]⟩
 | _ => ⟨[], [], [], [], []⟩
noncomputable abbrev abx : Cx := ⟨Tryd.prog, ⟨id, YV, Yn⟩, Y5⟩
theorem ac5 {args : List PV} {r : PV} (ha : args.length = 2) (h : awp abx abp (zS Tryd.prog [.tmp 4, .tmp 5] r []) (zR args [])) : PC Tryd.prog 74 args r :=
 zK (X := abx) mixed Tryd.func74 (c := abp) (by kernel_rfl) (by kernel_rfl) (rs := [.tmp 4, .tmp 5]) (by kernel_rfl) (by kernel_rfl) (by rw [ha]; decide) h
noncomputable def aak : Code := (Tryd.f77.body).getD .skip
def XY : List (Nat × Nf) := []
def X5 : List (Nat × List Nat) := []
def X4 : Nat → Ann
 | 0 => ⟨[1, 2], [2, 1000], [], [], [2, 1000]⟩
 | 1 => ⟨[3], [1000], [], [], [1000]⟩
 | _ => ⟨[], [], [], [], []⟩
noncomputable abbrev Y1 : Cx := ⟨Tryd.prog, ⟨id, XY, X5⟩, X4⟩
theorem ab6 {args : List PV} {es es' : List Ent} {r : PV} (ha : args.length = 2) (hl : es'.length = es.length) (he : (es'.all fun e => e.wu es.length) = true) (h : awp Y1 aak (zS Tryd.prog [.tmp 3] r es') (zR args es)) : BC Tryd.prog 77 args es r es' :=
 y5 (X := Y1) mixed Tryd.func77 (c := aak) (by kernel_rfl) (by kernel_rfl) (rs := [.tmp 3]) (by kernel_rfl) (by kernel_rfl) (by rw [ha]; decide) hl (fun e h => List.all_eq_true.1 he e h) h
noncomputable def xQ : Code := (Tryd.f76.body).getD .skip
def xJ : List (Nat × Nf) := []
def xD : List (Nat × List Nat) := []
def xG : Nat → Ann
 | 0 => ⟨[0, 1], [1000], [], [], [1000]⟩
 | 1 => ⟨[0, 1, 7, 8], [1000], [], [], [1000]⟩
 | 2 => ⟨[0, 1, 7, 8, 9], [1000], [], [], [1000]⟩
 | 3 => ⟨[0, 1, 5, 7, 8], [1000], [], [], [1000]⟩
 | 4 => ⟨[0, 1, 5, 7, 8, 16], [1000], [], [], [1000]⟩
 | 5 => ⟨[4], [1000], [], [], [1000]⟩
 | 6 => ⟨[0, 1, 7, 8], [1000], [], [], [1000]⟩
 | 7 => ⟨[4], [1000], [], [], [1000]⟩
 | _ => ⟨[], [], [], [], []⟩
noncomputable abbrev xM : Cx := ⟨Tryd.prog, ⟨id, xJ, xD⟩, xG⟩
theorem Qh {args : List PV} {es es' : List Ent} {r : PV} (ha : args.length = 2) (hl : es'.length = es.length) (he : (es'.all fun e => e.wu es.length) = true) (h : awp xM xQ (zS Tryd.prog [.tmp 4] r es') (zR args es)) : BC Tryd.prog 76 args es r es' :=
 y5 (X := xM) mixed Tryd.func76 (c := xQ) (by kernel_rfl) (by kernel_rfl) (rs := [.tmp 4]) (by kernel_rfl) (by kernel_rfl) (by rw [ha]; decide) hl (fun e h => List.all_eq_true.1 he e h) h
noncomputable def Z6 : Code := (Tryd.f71.body).getD .skip
def Zk : List (Nat × Nf) := []
def ZE : List (Nat × List Nat) := []
def ZB : Nat → Ann
 | 0 => ⟨[0], [5], [], [], [5]⟩
 | 1 => ⟨[0, 4], [5], [], [], [5]⟩
 | 2 => ⟨[2], [5], [], [], [5]⟩
 | 3 => ⟨[2], [5], [], [], [5]⟩
 | _ => ⟨[], [], [], [], []⟩
noncomputable abbrev ZU : Cx := ⟨Tryd.prog, ⟨id, Zk, ZE⟩, ZB⟩
theorem K4 {args : List PV} {r : PV} (ha : args.length = 1) (h : awp ZU Z6 (zS Tryd.prog [.tmp 2] r []) (zR args [])) : PC Tryd.prog 71 args r :=
 zK (X := ZU) mixed Tryd.func71 (c := Z6) (by kernel_rfl) (by kernel_rfl) (rs := [.tmp 2]) (by kernel_rfl) (by kernel_rfl) (by rw [ha]; decide) h
noncomputable def ado : Code := (Tryd.f78.body).getD .skip
def abJ : List (Nat × Nf) := [(18, [none, none, some 1, some 2, some 5]), (48, [none, none, none, none, some 5])]
def aa1 : List (Nat × List Nat) := []
def abL : Nat → Ann
 | 0 => ⟨[1, 3, 5, 6], [3, 5, 6], [.nrm 6 [none, none, some 1, some 2, some 5]], [], [3, 5, 6]⟩
 | 1 => ⟨[1, 3, 5, 6, 9], [3, 5, 6], [], [], [3, 5, 6]⟩
 | 2 => ⟨[1, 3, 5, 6, 9, 17], [3, 5, 6], [], [], [3, 5, 6]⟩
 | 3 => ⟨[6, 7], [6], [], [], [6]⟩
 | 4 => ⟨[1, 3, 5, 6, 22], [3, 5, 6], [], [], [3, 5, 6]⟩
 | 5 => ⟨[6, 7], [6], [], [], [6]⟩
 | 6 => ⟨[1, 3, 5, 6], [3, 5, 6, 26], [], [.ren 26 325], [3, 5, 6, 26, 325]⟩
 | 7 => ⟨[3, 6], [3, 6, 325], [], [], [3, 6, 325]⟩
 | 8 => ⟨[6, 7], [6], [], [], [6]⟩
 | _ => ⟨[], [], [], [], []⟩
noncomputable abbrev acD : Cx := ⟨Tryd.prog, ⟨id, abJ, aa1⟩, abL⟩
theorem ae6 {args : List PV} {r : PV} (ha : args.length = 3) (h : awp acD ado (zS Tryd.prog [.cell 6 28, .tmp 7] r []) (zR args [])) : PC Tryd.prog 78 args r :=
 zK (X := acD) mixed Tryd.func78 (c := ado) (by kernel_rfl) (by kernel_rfl) (rs := [.cell 6 28, .tmp 7]) (by kernel_rfl) (by kernel_rfl) (by rw [ha]; decide) h
noncomputable def aie : Code := (Tryd.f46.body).getD .skip
def afb : List (Nat × Nf) := [(24, [none, none, some 1, some 2, some 5]), (37, [none, none, some 1, some 2, some 5]), (58, [none, none, none, some 2, none])]
def aff : List (Nat × List Nat) := []
def afG : Nat → Ann
 | 0 => ⟨[2, 3, 4], [2, 3, 4], [.nrm 4 [none, none, some 1, some 2, some 5]], [], [2, 3, 4]⟩
 | 1 => ⟨[2, 3, 4, 7, 8], [2, 3, 4], [], [], [2, 3, 4]⟩
 | 2 => ⟨[2, 3, 4, 7, 23], [2, 3, 4], [], [], [2, 3, 4]⟩
 | 3 => ⟨[4, 5, 6], [4], [], [], [4]⟩
 | 4 => ⟨[2, 3, 4, 7, 9], [2, 3, 4, 9], [], [], [2, 3, 4, 9]⟩
 | 5 => ⟨[2, 3, 4, 7, 9, 11], [2, 3, 4, 9], [], [], [2, 3, 4, 9]⟩
 | 6 => ⟨[2, 3, 4, 7, 9, 11, 36], [2, 3, 4, 9], [], [], [2, 3, 4, 9]⟩
 | 7 => ⟨[4, 5, 6], [4], [], [], [4]⟩
 | 8 => ⟨[2, 3, 4, 7, 9, 11, 12], [2, 3, 4, 9], [], [], [2, 3, 4, 9]⟩
 | 9 => ⟨[2, 3, 4, 7, 9, 11, 12], [2, 3, 4, 9, 46], [], [.ren 46 366], [2, 3, 4, 9, 46, 366]⟩
 | 10 => ⟨[2, 4, 7, 9, 12], [2, 4, 9, 366], [], [], [2, 4, 9, 366]⟩
 | 11 => ⟨[4, 12, 13, 14], [4, 13], [], [], [4, 13]⟩
 | 12 => ⟨[4, 5, 6], [4], [], [], [4]⟩
 | _ => ⟨[], [], [], [], []⟩
noncomputable abbrev ahI : Cx := ⟨Tryd.prog, ⟨id, afb, aff⟩, afG⟩
theorem ahj {args : List PV} {r : PV} (ha : args.length = 2) (h : awp ahI aie (zS Tryd.prog [.cell 4 28, .tmp 5, .tmp 6] r []) (zR args [])) : PC Tryd.prog 46 args r :=
 zK (X := ahI) mixed Tryd.func46 (c := aie) (by kernel_rfl) (by kernel_rfl) (rs := [.cell 4 28, .tmp 5, .tmp 6]) (by kernel_rfl) (by kernel_rfl) (by rw [ha]; decide) h
noncomputable def Q4 : Code := (Tryd.f113.body).getD .skip
def QJ : List (Nat × Nf) := []
def QL : List (Nat × List Nat) := []
def QF : Nat → Ann
 | 0 => ⟨[0, 1, 2, 6], [1000, 1001], [], [], [1000, 1001]⟩
 | 1 => ⟨[0, 1, 2, 6, 35], [1000, 1001], [], [], [1000, 1001]⟩
 | 2 => ⟨[], [1000, 1001], [], [], [1000, 1001]⟩
 | 3 => ⟨[], [1000, 1001], [], [], [1000, 1001]⟩
 | _ => ⟨[], [], [], [], []⟩
noncomputable abbrev We : Cx := ⟨Tryd.prog, ⟨id, QJ, QL⟩, QF⟩
theorem VZ {args : List PV} {es es' : List Ent} {r : PV} (ha : args.length = 3) (hl : es'.length = es.length) (he : (es'.all fun e => e.wu es.length) = true) (h : awp We Q4 (zS Tryd.prog [] r es') (zR args es)) : BC Tryd.prog 113 args es r es' :=
 y5 (X := We) mixed Tryd.func113 (c := Q4) (by kernel_rfl) (by kernel_rfl) (rs := []) (by kernel_rfl) (by kernel_rfl) (by rw [ha]; decide) hl (fun e h => List.all_eq_true.1 he e h) h
noncomputable def Qc : Code := (Tryd.f114.body).getD .skip
def ZG : List (Nat × Nf) := []
def Zh : List (Nat × List Nat) := []
def Zn : Nat → Ann
 | 0 => ⟨[0, 1, 2, 3, 4, 8], [8, 1000, 1001], [.nrm 8 [none, none, some 1, some 2, some 5]], [], [8, 1000, 1001]⟩
 | 1 => ⟨[8], [8, 1000, 1001], [.nrm 8 [none, none, none, some 2, some 5]], [], [8, 1000, 1001]⟩
 | _ => ⟨[], [], [], [], []⟩
noncomputable abbrev ZO : Cx := ⟨Tryd.prog, ⟨id, ZG, Zh⟩, Zn⟩
theorem K5 {args : List PV} {es es' : List Ent} {r : PV} (ha : args.length = 5) (hl : es'.length = es.length) (he : (es'.all fun e => e.wu es.length) = true) (h : awp ZO Qc (zS Tryd.prog [.cell 8 28] r es') (zR args es)) : BC Tryd.prog 114 args es r es' :=
 y5 (X := ZO) mixed Tryd.func114 (c := Qc) (by kernel_rfl) (by kernel_rfl) (rs := [.cell 8 28]) (by kernel_rfl) (by kernel_rfl) (by rw [ha]; decide) hl (fun e h => List.all_eq_true.1 he e h) h
noncomputable def Q6 : Code := (Tryd.f101.body).getD .skip
def Qu : List (Nat × Nf) := []
def Qs : List (Nat × List Nat) := [(69, [4]), (70, [4]), (71, [4, 7, 999999]), (76, [4, 7, 999999]), (79, [7]), (81, [4]), (82, [4]), (83, [4, 7, 999999])]
def QE : Nat → Ann
 | 0 => ⟨[0, 2, 4], [4, 1000, 1001], [], [], [4, 1000, 1001]⟩
 | 1 => ⟨[0, 2, 4, 7], [4, 7, 1000, 1001], [], [], [4, 7, 1000, 1001]⟩
 | 2 => ⟨[0, 2, 4, 7, 8], [4, 7, 1000, 1001], [], [], [4, 7, 1000, 1001]⟩
 | 3 => ⟨[0, 2, 4, 7, 8, 9], [4, 7, 1000, 1001], [], [], [4, 7, 1000, 1001]⟩
 | 4 => ⟨[0, 2, 4, 7, 8, 9, 10, 11], [4, 7, 1000, 1001], [], [], [4, 7, 1000, 1001]⟩
 | 5 => ⟨[0, 2, 4, 7, 8, 9, 10, 55], [4, 7, 1000, 1001], [], [], [4, 7, 1000, 1001]⟩
 | 6 => ⟨[6], [57, 1000, 1001], [], [.ren 57 6], [6, 57, 1000, 1001]⟩
 | 7 => ⟨[4, 7, 8, 9, 10], [4, 7, 1000, 1001], [], [], [4, 7, 1000, 1001]⟩
 | 8 => ⟨[4, 7, 8, 9, 10, 12], [4, 7, 1000, 1001], [], [], [4, 7, 1000, 1001]⟩
 | 9 => ⟨[6], [84, 1000, 1001], [], [.ren 84 6], [6, 84, 1000, 1001]⟩
 | _ => ⟨[], [], [], [], []⟩
noncomputable abbrev Q8 : Cx := ⟨Tryd.prog, ⟨id, Qu, Qs⟩, QE⟩
theorem VY {args : List PV} {es es' : List Ent} {r : PV} (ha : args.length = 3) (hl : es'.length = es.length) (he : (es'.all fun e => e.wu es.length) = true) (h : awp Q8 Q6 (zS Tryd.prog [.tmp 6] r es') (zR args es)) : BC Tryd.prog 101 args es r es' :=
 y5 (X := Q8) mixed Tryd.func101 (c := Q6) (by kernel_rfl) (by kernel_rfl) (rs := [.tmp 6]) (by kernel_rfl) (by kernel_rfl) (by rw [ha]; decide) hl (fun e h => List.all_eq_true.1 he e h) h
noncomputable def afa : Code := (Tryd.f82.body).getD .skip
def ad7 : List (Nat × Nf) := []
def ady : List (Nat × List Nat) := []
def adK : Nat → Ann
 | 0 => ⟨[0], [], [], [], []⟩
 | 1 => ⟨[0, 3], [3], [.thaw 3 3 5], [], [3]⟩
 | 2 => ⟨[3, 7, 8, 9], [3], [], [], [3]⟩
 | 3 => ⟨[3, 7, 8, 9, 10], [3], [], [], [3]⟩
 | 4 => ⟨[3, 5, 7, 8, 9], [3, 5], [], [], [3, 5]⟩
 | 5 => ⟨[3, 5, 6, 7, 8, 9], [3, 5], [], [], [3, 5]⟩
 | 6 => ⟨[3, 7, 8, 9], [3], [], [], [3]⟩
 | 7 => ⟨[3, 5, 6, 7, 8, 9, 20], [3, 5], [], [], [3, 5]⟩
 | 8 => ⟨[3, 5, 6, 7, 8, 9, 28], [3, 5], [], [], [3, 5]⟩
 | 9 => ⟨[3, 5, 6, 7, 8, 9], [3, 5], [], [], [3, 5]⟩
 | 10 => ⟨[3, 7, 8, 9], [3], [], [], [3]⟩
 | 11 => ⟨[3, 7, 8, 9], [3], [], [], [3]⟩
 | 12 => ⟨[2], [3], [], [.ren 3 2], [2, 3]⟩
 | _ => ⟨[], [], [], [], []⟩
noncomputable abbrev afe : Cx := ⟨Tryd.prog, ⟨id, ad7, ady⟩, adK⟩
theorem agi {args : List PV} {r : PV} (ha : args.length = 1) (h : awp afe afa (zS Tryd.prog [.tmp 2] r []) (zR args [])) : PC Tryd.prog 82 args r :=
 zK (X := afe) mixed Tryd.func82 (c := afa) (by kernel_rfl) (by kernel_rfl) (rs := [.tmp 2]) (by kernel_rfl) (by kernel_rfl) (by rw [ha]; decide) h
noncomputable def Wh : Code := (Tryd.f79.body).getD .skip
def Qn : List (Nat × Nf) := []
def QR : List (Nat × List Nat) := []
def QT : Nat → Ann
 | 0 => ⟨[0, 1, 2], [1000, 1001], [], [], [1000, 1001]⟩
 | 1 => ⟨[0, 1, 2, 7], [7, 1000, 1001], [.thaw 7 7 5], [], [7, 1000, 1001]⟩
 | 2 => ⟨[0, 2, 7, 11, 12, 13], [7, 1000, 1001], [], [], [7, 1000, 1001]⟩
 | 3 => ⟨[0, 2, 7, 11, 12, 13, 14], [7, 1000, 1001], [], [], [7, 1000, 1001]⟩
 | 4 => ⟨[0, 2, 7, 9, 11, 12, 13], [7, 9, 1000, 1001], [], [], [7, 9, 1000, 1001]⟩
 | 5 => ⟨[0, 2, 7, 9, 10, 11, 12, 13], [7, 9, 1000, 1001], [], [], [7, 9, 1000, 1001]⟩
 | 6 => ⟨[0, 2, 7, 9, 10, 11, 12, 13, 21], [7, 9, 1000, 1001], [], [], [7, 9, 1000, 1001]⟩
 | 7 => ⟨[0, 2, 7, 10, 11, 12, 13], [7, 1000, 1001], [], [], [7, 1000, 1001]⟩
 | 8 => ⟨[0, 2, 7, 9, 10, 11, 12, 13], [7, 9, 1000, 1001], [], [], [7, 9, 1000, 1001]⟩
 | 9 => ⟨[0, 2, 7, 10, 11, 12, 13], [7, 1000, 1001], [], [], [7, 1000, 1001]⟩
 | 10 => ⟨[0, 2, 7, 11, 12, 13], [7, 1000, 1001], [], [], [7, 1000, 1001]⟩
 | 11 => ⟨[0, 2, 7, 11, 12, 13], [7, 1000, 1001], [], [], [7, 1000, 1001]⟩
 | 12 => ⟨[6], [1000, 1001], [], [], [1000, 1001]⟩
 | _ => ⟨[], [], [], [], []⟩
noncomputable abbrev Wd : Cx := ⟨Tryd.prog, ⟨id, Qn, QR⟩, QT⟩
theorem VX {args : List PV} {es es' : List Ent} {r : PV} (ha : args.length = 3) (hl : es'.length = es.length) (he : (es'.all fun e => e.wu es.length) = true) (h : awp Wd Wh (zS Tryd.prog [.tmp 6] r es') (zR args es)) : BC Tryd.prog 79 args es r es' :=
 y5 (X := Wd) mixed Tryd.func79 (c := Wh) (by kernel_rfl) (by kernel_rfl) (rs := [.tmp 6]) (by kernel_rfl) (by kernel_rfl) (by rw [ha]; decide) hl (fun e h => List.all_eq_true.1 he e h) h
noncomputable def acz : Code := (Tryd.f47.body).getD .skip
def abK : List (Nat × Nf) := [(14, [none, none, some 1, some 2, some 5])]
def abA : List (Nat × List Nat) := [(23, [2]), (25, [17]), (26, [17]), (27, [17]), (500004, [4])]
def aa2 : Nat → Ann
 | 0 => ⟨[2, 3, 4], [2, 3, 4], [.nrm 4 [none, none, some 1, some 2, some 5]], [], [2, 3, 4]⟩
 | 1 => ⟨[2, 3, 4, 13], [2, 3, 4], [], [], [2, 3, 4]⟩
 | 2 => ⟨[4, 5, 6], [4], [.nrm 5 [some 3]], [], [4]⟩
 | 3 => ⟨[2, 4, 7], [2, 4, 17, 425], [.V7 17 6 425 3], [], [2, 4, 17, 425]⟩
 | 4 => ⟨[2, 4, 7], [2, 4, 17, 425], [], [], [2, 4, 17, 425]⟩
 | 5 => ⟨[4, 5, 6], [4, 425], [], [.ren 425 5], [4, 5, 425]⟩
 | _ => ⟨[], [], [], [], []⟩
noncomputable abbrev adA : Cx := ⟨Tryd.prog, ⟨id, abK, abA⟩, aa2⟩
theorem aed {args : List PV} {r : PV} (ha : args.length = 2) (h : awp adA acz (zS Tryd.prog [.cell 4 28, .tmp 5, .tmp 6] r []) (zR args [])) : PC Tryd.prog 47 args r :=
 zK (X := adA) mixed Tryd.func47 (c := acz) (by kernel_rfl) (by kernel_rfl) (rs := [.cell 4 28, .tmp 5, .tmp 6]) (by kernel_rfl) (by kernel_rfl) (by rw [ha]; decide) h
noncomputable def adH : Code := (Tryd.f48.body).getD .skip
def aa4 : List (Nat × Nf) := [(26, [none, none, some 1, some 2, none])]
def abf : List (Nat × List Nat) := []
def abu : Nat → Ann
 | 0 => ⟨[1], [1], [], [], [1]⟩
 | 1 => ⟨[1, 3], [1], [], [], [1]⟩
 | 2 => ⟨[1, 3, 21], [1], [], [], [1]⟩
 | 3 => ⟨[1, 3, 21, 22], [1], [], [], [1]⟩
 | 4 => ⟨[1, 3, 4], [1], [], [], [1]⟩
 | 5 => ⟨[2], [], [], [], []⟩
 | 6 => ⟨[1, 3, 21, 41], [1], [], [], [1]⟩
 | 7 => ⟨[2], [], [], [], []⟩
 | 8 => ⟨[1, 3, 21, 72], [1], [], [], [1]⟩
 | 9 => ⟨[1, 3, 72], [1], [], [], [1]⟩
 | 10 => ⟨[2], [], [], [], []⟩
 | 11 => ⟨[2], [], [], [], []⟩
 | _ => ⟨[], [], [], [], []⟩
noncomputable abbrev ad6 : Cx := ⟨Tryd.prog, ⟨id, aa4, abf⟩, abu⟩
theorem aeD {args : List PV} {r : PV} (ha : args.length = 1) (h : awp ad6 adH (zS Tryd.prog [.tmp 2] r []) (zR args [])) : PC Tryd.prog 48 args r :=
 zK (X := ad6) mixed Tryd.func48 (c := adH) (by kernel_rfl) (by kernel_rfl) (rs := [.tmp 2]) (by kernel_rfl) (by kernel_rfl) (by rw [ha]; decide) h
noncomputable def V9 : Code := (Tryd.f96.body).getD .skip
def Vl : List (Nat × Nf) := [(4, [some 1, none, none, some 1, some 2, some 5, none, none])]
def VL : List (Nat × List Nat) := []
def VQ : Nat → Ann
 | 0 => ⟨[1, 3], [1000, 1001], [], [], [1000, 1001]⟩
 | 1 => ⟨[], [1000, 1001], [], [], [1000, 1001]⟩
 | _ => ⟨[], [], [], [], []⟩
noncomputable abbrev Jb : Cx := ⟨Tryd.prog, ⟨id, Vl, VL⟩, VQ⟩
theorem Yb {args : List PV} {es es' : List Ent} {r : PV} (ha : args.length = 2) (hl : es'.length = es.length) (he : (es'.all fun e => e.wu es.length) = true) (h : awp Jb V9 (zS Tryd.prog [] r es') (zR args es)) : BD Tryd.prog 96 args es r es' :=
 ap2 (X := Jb) mixed Tryd.func96 (c := V9) (by kernel_rfl) (rs := []) (by kernel_rfl) (by kernel_rfl) (by rw [ha]; decide) hl (fun e h => List.all_eq_true.1 he e h) h
noncomputable def Vy : Code := (Tryd.f98.body).getD .skip
def KF : List (Nat × Nf) := []
def KI : List (Nat × List Nat) := []
def KM : Nat → Ann
 | 0 => ⟨[0, 1], [], [], [], []⟩
 | 1 => ⟨[0, 1, 10], [], [], [], []⟩
 | 2 => ⟨[4], [], [], [], []⟩
 | 3 => ⟨[0, 1, 12, 13], [], [], [], []⟩
 | 4 => ⟨[0, 1, 12, 13, 14], [], [], [], []⟩
 | 5 => ⟨[0, 1, 5, 12, 13], [], [], [], []⟩
 | 6 => ⟨[0, 1, 12, 13, 24], [], [], [], []⟩
 | 7 => ⟨[4], [], [], [], []⟩
 | 8 => ⟨[0, 1, 12, 13], [], [], [], []⟩
 | 9 => ⟨[4], [], [], [], []⟩
 | _ => ⟨[], [], [], [], []⟩
noncomputable abbrev Vp : Cx := ⟨Tryd.prog, ⟨id, KF, KI⟩, KM⟩
theorem XB {args : List PV} {r : PV} (ha : args.length = 2) (h : awp Vp Vy (zS Tryd.prog [.tmp 4] r []) (zR args [])) : PC Tryd.prog 98 args r :=
 zK (X := Vp) mixed Tryd.func98 (c := Vy) (by kernel_rfl) (by kernel_rfl) (rs := [.tmp 4]) (by kernel_rfl) (by kernel_rfl) (by rw [ha]; decide) h
noncomputable def abr : Code := (Tryd.f99.body).getD .skip
def Y4 : List (Nat × Nf) := []
def YE : List (Nat × List Nat) := []
def YG : Nat → Ann
 | 0 => ⟨[1, 2], [2], [], [], [2]⟩
 | 1 => ⟨[1, 2, 7], [2], [], [], [2]⟩
 | 2 => ⟨[1, 2, 7, 18], [2], [], [], [2]⟩
 | 3 => ⟨[4, 5], [], [], [], []⟩
 | 4 => ⟨[1, 2, 8], [2], [], [], [2]⟩
 | 5 => ⟨[2, 8, 20, 21, 22], [2], [], [], [2]⟩
 | 6 => ⟨[2, 8, 20, 21, 22, 23], [2], [], [], [2]⟩
 | 7 => ⟨[2, 8, 10, 20, 21, 22], [2], [], [], [2]⟩
 | 8 => ⟨[2, 8, 10, 20, 21, 22], [2], [], [], [2]⟩
 | 9 => ⟨[2, 8, 20, 21, 22], [2], [], [], [2]⟩
 | 10 => ⟨[2, 8, 20, 21, 22], [2], [], [], [2]⟩
 | 11 => ⟨[4, 5], [], [], [], []⟩
 | _ => ⟨[], [], [], [], []⟩
noncomputable abbrev aaV : Cx := ⟨Tryd.prog, ⟨id, Y4, YE⟩, YG⟩
theorem ac6 {args : List PV} {r : PV} (ha : args.length = 2) (h : awp aaV abr (zS Tryd.prog [.tmp 4, .tmp 5] r []) (zR args [])) : PC Tryd.prog 99 args r :=
 zK (X := aaV) mixed Tryd.func99 (c := abr) (by kernel_rfl) (by kernel_rfl) (rs := [.tmp 4, .tmp 5]) (by kernel_rfl) (by kernel_rfl) (by rw [ha]; decide) h
def YM : List (Nat × Nf) := []
def aac : List (Nat × List Nat) := [(31, [1001]), (32, [1000]), (42, [1001]), (43, [1000]), (71, [8]), (72, [8]), (73, [12]), (81, [1000]), (500006, [1001]), (500007, [1000])]
def YF : Nat → Ann
 | 0 => ⟨[1, 2, 3, 6, 7], [3, 6, 7], [.nrm 6 [some 1, none, none, some 1, some 2, some 5, none, none]], [], [3, 6, 7]⟩
 | 1 => ⟨[1, 2, 3, 6, 7], [], [], [], []⟩
 | 2 => ⟨[1, 2, 3, 6, 7, 21], [3, 1000, 1001], [], [], [3, 1000, 1001]⟩
 | 3 => ⟨[6, 7], [1000, 1001], [], [], [1000, 1001]⟩
 | 4 => ⟨[1, 2, 3, 6, 7, 8], [3, 8, 1000, 1001], [], [], [3, 8, 1000, 1001]⟩
 | 5 => ⟨[1, 2, 3, 6, 7, 8, 30], [3, 8, 1000, 1001], [], [], [3, 8, 1000, 1001]⟩
 | 6 => ⟨[6, 7], [1000, 1001], [], [], [1000, 1001]⟩
 | 7 => ⟨[1, 2, 3, 6, 7, 8, 9], [3, 8, 9, 1000, 1001], [], [], [3, 8, 9, 1000, 1001]⟩
 | 8 => ⟨[1, 2, 3, 6, 7, 8, 9, 39], [3, 8, 9, 1000, 1001], [], [], [3, 8, 9, 1000, 1001]⟩
 | 9 => ⟨[6, 7], [1000, 1001], [], [], [1000, 1001]⟩
 | 10 => ⟨[1, 2, 3, 6, 7, 8, 9, 44], [3, 8, 9, 1000, 1001], [], [], [3, 8, 9, 1000, 1001]⟩
 | 11 => ⟨[6, 7], [1000, 1001], [], [], [1000, 1001]⟩
 | 12 => ⟨[1, 2, 3, 6, 7, 8, 49], [3, 8, 1000, 1001], [], [], [3, 8, 1000, 1001]⟩
 | 13 => ⟨[6, 7], [1000, 1001], [], [], [1000, 1001]⟩
 | 14 => ⟨[1, 2, 3, 6, 7, 8, 10], [3, 8, 1000, 1001], [], [], [3, 8, 1000, 1001]⟩
 | 15 => ⟨[1, 2, 6, 7, 8, 10, 12], [8, 12, 1000, 1001], [], [], [8, 12, 1000, 1001]⟩
 | 16 => ⟨[6, 7], [1000, 1001], [], [], [1000, 1001]⟩
 | _ => ⟨[], [], [], [], []⟩
noncomputable abbrev Jw : Cx := ⟨Tryd.prog, ⟨id, YM, aac⟩, YF⟩
noncomputable def aam : Code := match Tryd.f72.body with | some (.seq c _) => c | _ => .skip
noncomputable def aad : Code := match Tryd.f72.body with | some (.seq _ (.seq _ c)) => c | _ => .skip
noncomputable def ahX : Oper := match Tryd.f72.body with | some (.seq _ (.seq (.region _ ops _) _)) => (ops[0]?).getD ⟨none, .move (.tmp 0), 0, "", #[], none⟩ | _ => ⟨none, .move (.tmp 0), 0, "", #[], none⟩
noncomputable def ahb : Oper := match Tryd.f72.body with | some (.seq _ (.seq (.region _ ops _) _)) => (ops[1]?).getD ⟨none, .move (.tmp 0), 0, "", #[], none⟩ | _ => ⟨none, .move (.tmp 0), 0, "", #[], none⟩
theorem adU {args : List PV} {r : PV} (ha : args.length = 3) (h : awp Jw aam (midD Jw 96 13 7 6 aad [.cell 6 123, .cell 7 31] r) (zR args [])) : PC Tryd.prog 72 args r :=
 aow (X := Jw) (id := 1) (o1 := ahX) (o2 := ahb) (c0 := aam) (c1 := aad) mixed Tryd.func72 (by kernel_rfl) ⟨by rfl, by rfl, by rfl⟩ ⟨⟨_, by rfl⟩, by rfl, by rfl⟩ (by kernel_rfl) ⟨_, Tryd.func96, by kernel_rfl, by kernel_rfl⟩ (rs := [.cell 6 123, .cell 7 31]) (by kernel_rfl) (by kernel_rfl) (by kernel_rfl) (by rw [ha]; decide) (by decide) h
noncomputable def aa5 : Code := (Tryd.f73.body).getD .skip
def aan : List (Nat × Nf) := []
def YO : List (Nat × List Nat) := [(44, []), (45, []), (48, []), (49, []), (75, []), (76, []), (79, []), (80, []), (81, [11]), (82, [9]), (83, [9]), (500081, [11]), (500083, [9])]
def aaj : Nat → Ann
 | 0 => ⟨[0, 1], [], [], [], []⟩
 | 1 => ⟨[0, 1, 19], [], [], [], []⟩
 | 2 => ⟨[4, 5, 6], [], [.nrm 4 [some 5], .nrm 5 [some 5]], [], []⟩
 | 3 => ⟨[0, 1, 7], [], [], [], []⟩
 | 4 => ⟨[0, 1, 7, 32], [], [], [], []⟩
 | 5 => ⟨[0, 1, 7], [], [], [], []⟩
 | 6 => ⟨[0, 1, 7], [], [], [], []⟩
 | 7 => ⟨[0, 1, 7, 8, 9], [45, 49], [], [.ren 45 8, .ren 49 9], [8, 9, 45, 49]⟩
 | 8 => ⟨[0, 1, 7, 8, 9, 50], [8, 9], [], [], [8, 9]⟩
 | 9 => ⟨[4, 5, 6], [8, 9], [], [.ren 8 4, .ren 9 5], [4, 5, 8, 9]⟩
 | 10 => ⟨[0, 1, 7, 8, 9, 55], [8, 9], [], [], [8, 9]⟩
 | 11 => ⟨[4, 5, 6], [], [.nrm 4 [some 5], .nrm 5 [some 5]], [], []⟩
 | 12 => ⟨[0, 1, 7, 8, 9, 10], [8, 9], [], [], [8, 9]⟩
 | 13 => ⟨[1, 8, 9, 10, 11], [8, 9, 11], [], [], [8, 9, 11]⟩
 | 14 => ⟨[8, 9, 11], [8, 9, 11], [], [], [8, 9, 11]⟩
 | 15 => ⟨[4, 5, 6], [8, 9], [], [.ren 8 4, .ren 9 5], [4, 5, 8, 9]⟩
 | _ => ⟨[], [], [], [], []⟩
noncomputable abbrev aaU : Cx := ⟨Tryd.prog, ⟨id, aan, YO⟩, aaj⟩
theorem acu {args : List PV} {r : PV} (ha : args.length = 2) (h : awp aaU aa5 (zS Tryd.prog [.tmp 4, .tmp 5, .tmp 6] r []) (zR args [])) : PC Tryd.prog 73 args r :=
 zK (X := aaU) mixed Tryd.func73 (c := aa5) (by kernel_rfl) (by kernel_rfl) (rs := [.tmp 4, .tmp 5, .tmp 6]) (by kernel_rfl) (by kernel_rfl) (by rw [ha]; decide) h
noncomputable def Zo : Code := (Tryd.f83.body).getD .skip
def y8 : List (Nat × Nf) := []
def y9 : List (Nat × List Nat) := []
def y7 : Nat → Ann
 | 0 => ⟨[0], [], [], [], []⟩
 | 1 => ⟨[0, 3], [], [], [], []⟩
 | 2 => ⟨[0, 3, 9, 10, 11], [], [], [], []⟩
 | 3 => ⟨[0, 3, 9, 10, 11, 12], [], [], [], []⟩
 | 4 => ⟨[0, 3, 5, 9, 10, 11], [], [], [], []⟩
 | 5 => ⟨[0, 3, 9, 10, 11], [], [], [], []⟩
 | 6 => ⟨[0, 3, 9, 10, 11, 20], [], [], [], []⟩
 | 7 => ⟨[0, 3, 9, 10, 11], [], [], [], []⟩
 | 8 => ⟨[0, 3, 9, 10, 11], [], [], [], []⟩
 | 9 => ⟨[0, 6], [24], [], [.ren 24 6], [6, 24]⟩
 | 10 => ⟨[6, 25, 26, 27], [6], [], [], [6]⟩
 | 11 => ⟨[6, 25, 26, 27, 28], [6], [], [], [6]⟩
 | 12 => ⟨[6, 8, 25, 26, 27], [6], [], [], [6]⟩
 | 13 => ⟨[6, 25, 26, 27], [6], [], [], [6]⟩
 | 14 => ⟨[6, 25, 26, 27], [6], [], [], [6]⟩
 | 15 => ⟨[2], [6], [], [.ren 6 2], [2, 6]⟩
 | _ => ⟨[], [], [], [], []⟩
noncomputable abbrev Zl : Cx := ⟨Tryd.prog, ⟨id, y8, y9⟩, y7⟩
theorem Kt {args : List PV} {r : PV} (ha : args.length = 1) (h : awp Zl Zo (zS Tryd.prog [.tmp 2] r []) (zR args [])) : PC Tryd.prog 83 args r :=
 zK (X := Zl) mixed Tryd.func83 (c := Zo) (by kernel_rfl) (by kernel_rfl) (rs := [.tmp 2]) (by kernel_rfl) (by kernel_rfl) (by rw [ha]; decide) h
noncomputable def afC : Code := (Tryd.f49.body).getD .skip
def adi : List (Nat × Nf) := [(33, [none, none, some 1, some 2, none]), (37, [none, none, some 1, some 2, some 5]), (40, [none, none, some 1, some 2, some 5]), (83, [none, none, some 1, some 2, some 5])]
def aea : List (Nat × List Nat) := []
def ade : Nat → Ann
 | 0 => ⟨[1, 2, 3, 4, 8], [4, 8], [.nrm 8 [none, none, some 1, some 2, some 5]], [], [4, 8]⟩
 | 1 => ⟨[3, 4, 8, 10, 11], [4, 8, 10], [], [], [4, 8, 10]⟩
 | 2 => ⟨[3, 4, 8, 10, 11, 36], [4, 8, 10], [], [], [4, 8, 10]⟩
 | 3 => ⟨[8, 9], [8], [], [], [8]⟩
 | 4 => ⟨[3, 4, 8, 10, 11, 39], [4, 8, 10], [], [], [4, 8, 10]⟩
 | 5 => ⟨[8, 9], [8], [], [], [8]⟩
 | 6 => ⟨[3, 4, 8, 10, 12], [4, 8, 10], [], [], [4, 8, 10]⟩
 | 7 => ⟨[3, 4, 8, 10, 12, 16], [4, 8, 10], [], [], [4, 8, 10]⟩
 | 8 => ⟨[4, 8, 10], [4, 8, 10], [], [], [4, 8, 10]⟩
 | 9 => ⟨[8, 18], [8, 18], [], [], [8, 18]⟩
 | 10 => ⟨[8, 18, 20], [8, 18], [], [], [8, 18]⟩
 | 11 => ⟨[8, 18, 20, 82], [8, 18], [], [], [8, 18]⟩
 | 12 => ⟨[8, 9], [8], [], [], [8]⟩
 | 13 => ⟨[8, 9], [8], [], [], [8]⟩
 | _ => ⟨[], [], [], [], []⟩
noncomputable abbrev afJ : Cx := ⟨Tryd.prog, ⟨id, adi, aea⟩, ade⟩
theorem agd {args : List PV} {r : PV} (ha : args.length = 4) (h : awp afJ afC (zS Tryd.prog [.cell 8 28, .tmp 9] r []) (zR args [])) : PC Tryd.prog 49 args r :=
 zK (X := afJ) mixed Tryd.func49 (c := afC) (by kernel_rfl) (by kernel_rfl) (rs := [.cell 8 28, .tmp 9]) (by kernel_rfl) (by kernel_rfl) (by rw [ha]; decide) h
noncomputable def adQ : Code := (Tryd.f17.body).getD .skip
def abS : List (Nat × Nf) := [(16, [none, none, some 1, some 2, some 5]), (26, [none, none, some 1, some 2, some 5])]
def abN : List (Nat × List Nat) := []
def abF : Nat → Ann
 | 0 => ⟨[2, 3, 4], [2, 3, 4], [.nrm 4 [none, none, some 1, some 2, some 5]], [], [2, 3, 4]⟩
 | 1 => ⟨[2, 3, 4, 12], [2, 3, 4], [], [], [2, 3, 4]⟩
 | 2 => ⟨[4, 5], [4], [], [], [4]⟩
 | 3 => ⟨[2, 3, 4, 17], [2, 3, 4], [], [], [2, 3, 4]⟩
 | 4 => ⟨[4, 5], [4], [], [], [4]⟩
 | 5 => ⟨[2, 3, 4, 27], [2, 3, 4], [], [], [2, 3, 4]⟩
 | 6 => ⟨[4, 5], [4], [], [], [4]⟩
 | 7 => ⟨[2, 3, 4, 41], [2, 3, 4], [], [], [2, 3, 4]⟩
 | 8 => ⟨[4, 6, 8], [4, 6], [], [], [4, 6]⟩
 | 9 => ⟨[4, 5], [4], [], [], [4]⟩
 | 10 => ⟨[4, 9, 11], [4, 9], [], [], [4, 9]⟩
 | 11 => ⟨[4, 5], [4], [], [], [4]⟩
 | _ => ⟨[], [], [], [], []⟩
noncomputable abbrev acY : Cx := ⟨Tryd.prog, ⟨id, abS, abN⟩, abF⟩
theorem aeP {args : List PV} {r : PV} (ha : args.length = 2) (h : awp acY adQ (zS Tryd.prog [.cell 4 28, .tmp 5] r []) (zR args [])) : PC Tryd.prog 17 args r :=
 zK (X := acY) mixed Tryd.func17 (c := adQ) (by kernel_rfl) (by kernel_rfl) (rs := [.cell 4 28, .tmp 5]) (by kernel_rfl) (by kernel_rfl) (by rw [ha]; decide) h
noncomputable def agI : Code := (Tryd.f14.body).getD .skip
def afz : List (Nat × Nf) := [(23, [none, none, some 1, some 2, some 5])]
def afk : List (Nat × List Nat) := []
def afI : Nat → Ann
 | 0 => ⟨[1, 2, 4], [2, 4], [.nrm 4 [none, none, some 1, some 2, some 5]], [], [2, 4]⟩
 | 1 => ⟨[1, 2, 4], [2, 4], [], [], [2, 4]⟩
 | 2 => ⟨[2, 4, 9, 10, 11], [2, 4], [], [], [2, 4]⟩
 | 3 => ⟨[2, 4, 9, 10, 11, 12], [2, 4], [], [], [2, 4]⟩
 | 4 => ⟨[2, 4, 8, 9, 10, 11], [2, 4, 8], [], [], [2, 4, 8]⟩
 | 5 => ⟨[2, 4, 6, 9, 10, 11], [2, 4], [], [], [2, 4]⟩
 | 6 => ⟨[2, 4, 6, 9, 10, 11, 22], [2, 4], [], [], [2, 4]⟩
 | 7 => ⟨[4, 5], [4], [], [], [4]⟩
 | 8 => ⟨[2, 4, 9, 10, 11], [2, 4], [], [], [2, 4]⟩
 | 9 => ⟨[4, 5], [4], [], [], [4]⟩
 | _ => ⟨[], [], [], [], []⟩
noncomputable abbrev agU : Cx := ⟨Tryd.prog, ⟨id, afz, afk⟩, afI⟩
theorem ag5 {args : List PV} {r : PV} (ha : args.length = 2) (h : awp agU agI (zS Tryd.prog [.cell 4 28, .tmp 5] r []) (zR args [])) : PC Tryd.prog 14 args r :=
 zK (X := agU) mixed Tryd.func14 (c := agI) (by kernel_rfl) (by kernel_rfl) (rs := [.cell 4 28, .tmp 5]) (by kernel_rfl) (by kernel_rfl) (by rw [ha]; decide) h
noncomputable def ZV : Code := (Tryd.f43.body).getD .skip
def Zy : List (Nat × Nf) := []
def Zf : List (Nat × List Nat) := []
def Zq : Nat → Ann
 | 0 => ⟨[0, 1], [], [], [], []⟩
 | 1 => ⟨[0, 1, 10], [], [], [], []⟩
 | 2 => ⟨[4], [], [], [], []⟩
 | 3 => ⟨[0, 1, 12, 13], [], [], [], []⟩
 | 4 => ⟨[0, 1, 12, 13, 14], [], [], [], []⟩
 | 5 => ⟨[0, 1, 5, 12, 13], [], [], [], []⟩
 | 6 => ⟨[0, 1, 12, 13, 24], [], [], [], []⟩
 | 7 => ⟨[4], [], [], [], []⟩
 | 8 => ⟨[0, 1, 12, 13], [], [], [], []⟩
 | 9 => ⟨[4], [], [], [], []⟩
 | _ => ⟨[], [], [], [], []⟩
noncomputable abbrev ZN : Cx := ⟨Tryd.prog, ⟨id, Zy, Zf⟩, Zq⟩
theorem K7 {args : List PV} {r : PV} (ha : args.length = 2) (h : awp ZN ZV (zS Tryd.prog [.tmp 4] r []) (zR args [])) : PC Tryd.prog 43 args r :=
 zK (X := ZN) mixed Tryd.func43 (c := ZV) (by kernel_rfl) (by kernel_rfl) (rs := [.tmp 4]) (by kernel_rfl) (by kernel_rfl) (by rw [ha]; decide) h
noncomputable def jh : Code := (Tryd.f44.body).getD .skip
def vR : List (Nat × Nf) := []
def vZ : List (Nat × List Nat) := []
def vS : Nat → Ann
 | 0 => ⟨[0, 1, 2], [], [], [], []⟩
 | 1 => ⟨[0, 1, 2, 14], [], [], [], []⟩
 | 2 => ⟨[6], [], [], [], []⟩
 | 3 => ⟨[1, 2, 15, 16, 17], [], [], [], []⟩
 | 4 => ⟨[1, 2, 15, 16, 17, 18], [], [], [], []⟩
 | 5 => ⟨[1, 2, 7, 8, 15, 16, 17], [8], [], [], [8]⟩
 | 6 => ⟨[1, 2, 8, 9, 15, 16, 17], [8, 9], [], [], [8, 9]⟩
 | 7 => ⟨[1, 2, 15, 16, 17, 30], [], [], [], []⟩
 | 8 => ⟨[6], [], [], [], []⟩
 | 9 => ⟨[1, 2, 15, 16, 17], [], [], [], []⟩
 | 10 => ⟨[6], [], [], [], []⟩
 | _ => ⟨[], [], [], [], []⟩
noncomputable abbrev jf : Cx := ⟨Tryd.prog, ⟨id, vR, vZ⟩, vS⟩
theorem x8 {args : List PV} {r : PV} (ha : args.length = 3) (h : awp jf jh (zS Tryd.prog [.tmp 6] r []) (zR args [])) : PC Tryd.prog 44 args r :=
 zK (X := jf) mixed Tryd.func44 (c := jh) (by kernel_rfl) (by kernel_rfl) (rs := [.tmp 6]) (by kernel_rfl) (by kernel_rfl) (by rw [ha]; decide) h
noncomputable def afY : Code := (Tryd.f15.body).getD .skip
def adv : List (Nat × Nf) := []
def adk : List (Nat × List Nat) := []
def aeb : Nat → Ann
 | 0 => ⟨[2, 3], [2, 3], [], [], [2, 3]⟩
 | 1 => ⟨[4], [], [], [], []⟩
 | _ => ⟨[], [], [], [], []⟩
noncomputable abbrev afV : Cx := ⟨Tryd.prog, ⟨id, adv, adk⟩, aeb⟩
theorem agh {args : List PV} {r : PV} (ha : args.length = 2) (h : awp afV afY (zS Tryd.prog [.tmp 4] r []) (zR args [])) : PC Tryd.prog 15 args r :=
 zK (X := afV) mixed Tryd.func15 (c := afY) (by kernel_rfl) (by kernel_rfl) (rs := [.tmp 4]) (by kernel_rfl) (by kernel_rfl) (by rw [ha]; decide) h
noncomputable def afN : Code := (Tryd.f45.body).getD .skip
def adf : List (Nat × Nf) := []
def acO : List (Nat × List Nat) := []
def adF : Nat → Ann
 | 0 => ⟨[1, 2, 3], [3], [], [], [3]⟩
 | 1 => ⟨[8, 9], [8], [], [], [8]⟩
 | 2 => ⟨[8, 9, 23], [8], [], [], [8]⟩
 | 3 => ⟨[6, 7], [], [.nrm 6 [some 5]], [], []⟩
 | 4 => ⟨[8, 10], [8], [], [], [8]⟩
 | 5 => ⟨[9, 14], [], [], [], []⟩
 | 6 => ⟨[6, 7], [], [], [], []⟩
 | _ => ⟨[], [], [], [], []⟩
noncomputable abbrev afm : Cx := ⟨Tryd.prog, ⟨id, adf, acO⟩, adF⟩
theorem agl {args : List PV} {r : PV} (ha : args.length = 3) (h : awp afm afN (zS Tryd.prog [.tmp 6, .tmp 7] r []) (zR args [])) : PC Tryd.prog 45 args r :=
 zK (X := afm) mixed Tryd.func45 (c := afN) (by kernel_rfl) (by kernel_rfl) (rs := [.tmp 6, .tmp 7]) (by kernel_rfl) (by kernel_rfl) (by rw [ha]; decide) h
noncomputable def afK : Code := (Tryd.f16.body).getD .skip
def adM : List (Nat × Nf) := [(68, [none, none, none, some 5, none, none]), (98, [none, none, none, some 5, none, none])]
def acp : List (Nat × List Nat) := []
def adE : Nat → Ann
 | 0 => ⟨[2, 3], [2, 3], [], [], [2, 3]⟩
 | 1 => ⟨[2, 3, 7], [2, 3], [], [], [2, 3]⟩
 | 2 => ⟨[2, 3, 7, 27], [2, 3], [], [], [2, 3]⟩
 | 3 => ⟨[4, 5], [], [.nrm 4 [some 6]], [], []⟩
 | 4 => ⟨[2, 3, 30], [2, 3], [], [], [2, 3]⟩
 | 5 => ⟨[2, 3, 30, 31], [2, 3], [], [], [2, 3]⟩
 | 6 => ⟨[3, 8, 9], [3], [], [], [3]⟩
 | 7 => ⟨[4, 5], [52], [], [.ren 52 4], [4, 52]⟩
 | 8 => ⟨[2, 3, 54], [2, 3], [], [], [2, 3]⟩
 | 9 => ⟨[3, 11, 12], [3], [], [], [3]⟩
 | 10 => ⟨[4, 5], [69], [], [.ren 69 4], [4, 69]⟩
 | 11 => ⟨[2, 3, 13], [2, 3], [], [], [2, 3]⟩
 | 12 => ⟨[3, 13, 15, 16], [3], [], [], [3]⟩
 | 13 => ⟨[3, 13, 15, 16, 17], [3, 17], [.thaw 17 17 6], [], [3, 17]⟩
 | 14 => ⟨[3, 13, 16, 17, 81, 82, 83], [3, 17], [], [], [3, 17]⟩
 | 15 => ⟨[3, 13, 16, 17, 81, 82, 83, 84], [3, 17], [], [], [3, 17]⟩
 | 16 => ⟨[3, 13, 16, 17, 19, 81, 82, 83], [3, 17, 19], [], [], [3, 17, 19]⟩
 | 17 => ⟨[3, 13, 16, 17, 81, 82, 83], [3, 17], [], [], [3, 17]⟩
 | 18 => ⟨[3, 13, 16, 17, 81, 82, 83], [3, 17], [], [], [3, 17]⟩
 | 19 => ⟨[4, 5], [17], [], [.ren 17 4], [4, 17]⟩
 | _ => ⟨[], [], [], [], []⟩
noncomputable abbrev afM : Cx := ⟨Tryd.prog, ⟨id, adM, acp⟩, adE⟩
theorem af3 {args : List PV} {r : PV} (ha : args.length = 2) (h : awp afM afK (zS Tryd.prog [.tmp 4, .tmp 5] r []) (zR args [])) : PC Tryd.prog 16 args r :=
 zK (X := afM) mixed Tryd.func16 (c := afK) (by kernel_rfl) (by kernel_rfl) (rs := [.tmp 4, .tmp 5]) (by kernel_rfl) (by kernel_rfl) (by rw [ha]; decide) h
noncomputable def Ka : Code := (Tryd.f24.body).getD .skip
def Q0 : List (Nat × Nf) := [(4, [none, none, some 1, some 2, some 5]), (6, [none, none, some 1, some 2, some 5]), (8, [none, none, some 1, some 2, some 5]), (11, [none, none, none, some 5, none, none])]
def Q7 : List (Nat × List Nat) := []
def Q3 : Nat → Ann
 | 0 => ⟨[], [], [], [], []⟩
 | 1 => ⟨[1], [1], [], [], [1]⟩
 | 2 => ⟨[2, 3], [2], [], [], [2]⟩
 | 3 => ⟨[0], [], [], [], []⟩
 | _ => ⟨[], [], [], [], []⟩
noncomputable abbrev Kb : Cx := ⟨Tryd.prog, ⟨id, Q0, Q7⟩, Q3⟩
theorem JE {args : List PV} {r : PV} (ha : args.length = 0) (h : awp Kb Ka (zS Tryd.prog [.tmp 0] r []) (zR args [])) : PC Tryd.prog 24 args r :=
 zK (X := Kb) mixed Tryd.func24 (c := Ka) (by kernel_rfl) (by kernel_rfl) (rs := [.tmp 0]) (by kernel_rfl) (by kernel_rfl) (by rw [ha]; decide) h
noncomputable def KO : Code := (Tryd.f26.body).getD .skip
def WU : List (Nat × Nf) := []
def WX : List (Nat × List Nat) := []
def Kk : Nat → Ann
 | 0 => ⟨[0, 1], [], [], [], []⟩
 | 1 => ⟨[0, 1, 6], [], [], [], []⟩
 | 2 => ⟨[0, 1], [], [], [], []⟩
 | 3 => ⟨[4], [], [], [], []⟩
 | _ => ⟨[], [], [], [], []⟩
noncomputable abbrev KD : Cx := ⟨Tryd.prog, ⟨id, WU, WX⟩, Kk⟩
theorem J4 {args : List PV} {r : PV} (ha : args.length = 2) (h : awp KD KO (zS Tryd.prog [.tmp 4] r []) (zR args [])) : PC Tryd.prog 26 args r :=
 zK (X := KD) mixed Tryd.func26 (c := KO) (by kernel_rfl) (by kernel_rfl) (rs := [.tmp 4]) (by kernel_rfl) (by kernel_rfl) (by rw [ha]; decide) h
noncomputable def KV : Code := (Tryd.f38.body).getD .skip
def WV : List (Nat × Nf) := []
def Ke : List (Nat × List Nat) := []
def Kg : Nat → Ann
 | 0 => ⟨[1], [1], [], [], [1]⟩
 | 1 => ⟨[1, 7], [1], [], [], [1]⟩
 | 2 => ⟨[2], [], [], [], []⟩
 | 3 => ⟨[1, 3], [1], [], [], [1]⟩
 | 4 => ⟨[1, 3, 4], [1], [], [], [1]⟩
 | 5 => ⟨[1, 3, 4, 12], [1], [], [], [1]⟩
 | 6 => ⟨[1, 3, 4], [1], [], [], [1]⟩
 | 7 => ⟨[1, 3, 4], [1], [], [], [1]⟩
 | 8 => ⟨[2], [], [], [], []⟩
 | _ => ⟨[], [], [], [], []⟩
noncomputable abbrev KT : Cx := ⟨Tryd.prog, ⟨id, WV, Ke⟩, Kg⟩
theorem JV {args : List PV} {r : PV} (ha : args.length = 1) (h : awp KT KV (zS Tryd.prog [.tmp 2] r []) (zR args [])) : PC Tryd.prog 38 args r :=
 zK (X := KT) mixed Tryd.func38 (c := KV) (by kernel_rfl) (by kernel_rfl) (rs := [.tmp 2]) (by kernel_rfl) (by kernel_rfl) (by rw [ha]; decide) h
noncomputable def Z8 : Code := (Tryd.f95.body).getD .skip
def Zi : List (Nat × Nf) := []
def Zw : List (Nat × List Nat) := []
def Zz : Nat → Ann
 | 0 => ⟨[0, 1], [], [], [], []⟩
 | 1 => ⟨[0, 1, 10], [], [], [], []⟩
 | 2 => ⟨[4], [], [], [], []⟩
 | 3 => ⟨[0, 1, 5], [], [], [], []⟩
 | 4 => ⟨[0, 1, 5, 14], [], [], [], []⟩
 | 5 => ⟨[0, 1, 5], [], [], [], []⟩
 | 6 => ⟨[0, 1, 5, 25], [], [], [], []⟩
 | 7 => ⟨[4], [], [], [], []⟩
 | 8 => ⟨[4], [], [], [], []⟩
 | _ => ⟨[], [], [], [], []⟩
noncomputable abbrev Qf : Cx := ⟨Tryd.prog, ⟨id, Zi, Zw⟩, Zz⟩
theorem Va {args : List PV} {r : PV} (ha : args.length = 2) (h : awp Qf Z8 (zS Tryd.prog [.tmp 4] r []) (zR args [])) : PC Tryd.prog 95 args r :=
 zK (X := Qf) mixed Tryd.func95 (c := Z8) (by kernel_rfl) (by kernel_rfl) (rs := [.tmp 4]) (by kernel_rfl) (by kernel_rfl) (by rw [ha]; decide) h
noncomputable def Vt : Code := (Tryd.f65.body).getD .skip
def KW : List (Nat × Nf) := []
def KG : List (Nat × List Nat) := [(65, [3]), (66, [3, 62]), (67, [5]), (69, [62, 68])]
def KA : Nat → Ann
 | 0 => ⟨[0], [], [], [], []⟩
 | 1 => ⟨[0, 3], [3], [.thaw 3 3 5], [], [3]⟩
 | 2 => ⟨[0, 3, 4], [3], [], [], [3]⟩
 | 3 => ⟨[0, 3, 4, 10], [3], [], [], [3]⟩
 | 4 => ⟨[0, 3, 4], [3], [], [], [3]⟩
 | 5 => ⟨[0, 3, 4, 5], [3, 5], [], [], [3, 5]⟩
 | 6 => ⟨[0, 3, 4, 5, 6], [3, 5], [], [], [3, 5]⟩
 | 7 => ⟨[0, 3, 4, 5, 6, 27], [3, 5], [], [], [3, 5]⟩
 | 8 => ⟨[0, 3, 4, 5, 6, 52], [3, 5], [], [], [3, 5]⟩
 | 9 => ⟨[0, 3, 4, 5, 6], [3, 5], [], [], [3, 5]⟩
 | 10 => ⟨[0, 3, 4], [62], [], [.ren 62 3], [3, 62]⟩
 | 11 => ⟨[0, 3, 4], [3], [], [], [3]⟩
 | 12 => ⟨[2], [3], [], [.ren 3 2], [2, 3]⟩
 | _ => ⟨[], [], [], [], []⟩
noncomputable abbrev VM : Cx := ⟨Tryd.prog, ⟨id, KW, KG⟩, KA⟩
theorem Xn {args : List PV} {r : PV} (ha : args.length = 1) (h : awp VM Vt (zS Tryd.prog [.tmp 2] r []) (zR args [])) : PC Tryd.prog 65 args r :=
 zK (X := VM) mixed Tryd.func65 (c := Vt) (by kernel_rfl) (by kernel_rfl) (rs := [.tmp 2]) (by kernel_rfl) (by kernel_rfl) (by rw [ha]; decide) h
noncomputable def KU : Code := (Tryd.f56.body).getD .skip
def Kl : List (Nat × Nf) := [(29, [none, none, some 1, some 2, none])]
def W9 : List (Nat × List Nat) := []
def Kc : Nat → Ann
 | 0 => ⟨[1, 2, 4], [2, 4], [.nrm 4 [none, none, some 1, some 2, some 5]], [], [2, 4]⟩
 | 1 => ⟨[1, 2, 4, 5], [2, 4, 8], [], [.ren 8 5], [2, 4, 5, 8]⟩
 | 2 => ⟨[1, 2, 4, 5, 6], [2, 4, 5, 9], [], [.ren 9 6], [2, 4, 5, 6, 9]⟩
 | 3 => ⟨[1, 4, 7], [4, 25], [], [.ren 25 7], [4, 7, 25]⟩
 | 4 => ⟨[4], [4], [], [], [4]⟩
 | _ => ⟨[], [], [], [], []⟩
noncomputable abbrev KJ : Cx := ⟨Tryd.prog, ⟨id, Kl, W9⟩, Kc⟩
theorem JZ {args : List PV} {r : PV} (ha : args.length = 2) (h : awp KJ KU (zS Tryd.prog [.cell 4 28] r []) (zR args [])) : PC Tryd.prog 56 args r :=
 zK (X := KJ) mixed Tryd.func56 (c := KU) (by kernel_rfl) (by kernel_rfl) (rs := [.cell 4 28]) (by kernel_rfl) (by kernel_rfl) (by rw [ha]; decide) h
noncomputable def Vx : Code := (Tryd.f25.body).getD .skip
def KN : List (Nat × Nf) := [(14, [none, none, some 1, some 2, none]), (34, [none, none, none, some 2, some 5]), (62, [none, none, some 1, none, none]), (93, [none, none, some 1, some 2, none]), (171, [none, none, none, none, some 5]), (173, [none, none, some 1, some 2, some 5]), (177, [none, none, none, none, some 5])]
def KL : List (Nat × List Nat) := [(115, [12]), (116, [12]), (117, [114]), (118, [11]), (120, [114, 119]), (121, [12]), (123, [4]), (124, [4]), (126, [332]), (127, [122, 332]), (128, [12]), (130, [122, 129]), (131, [4]), (152, [11]), (153, [11]), (154, [4]), (155, [4]), (157, [332]), (158, [332]), (160, [159, 381]), (161, [11]), (500121, [12, 114]), (500131, [4, 122])]
def Kz : Nat → Ann
 | 0 => ⟨[0, 2], [2], [.nrm 2 [none, none, some 1, some 2, some 5]], [], [2]⟩
 | 1 => ⟨[0, 2, 3], [2, 13], [], [.ren 13 3], [2, 3, 13]⟩
 | 2 => ⟨[0, 2, 3, 4], [2, 3, 4, 332], [.V7 4 4 332 5], [], [2, 3, 4, 332]⟩
 | 3 => ⟨[0, 2, 3, 4, 5], [2, 3, 4, 5, 332], [.thaw 5 5 5], [], [2, 3, 4, 5, 332]⟩
 | 4 => ⟨[0, 2, 3, 4, 5, 6], [2, 3, 4, 5, 332], [], [], [2, 3, 4, 5, 332]⟩
 | 5 => ⟨[0, 2, 3, 4, 5, 6, 22], [2, 3, 4, 5, 332], [], [], [2, 3, 4, 5, 332]⟩
 | 6 => ⟨[0, 2, 3, 4, 5, 6], [2, 3, 4, 5, 332], [], [], [2, 3, 4, 5, 332]⟩
 | 7 => ⟨[0, 2, 3, 4, 5, 6, 7], [2, 3, 4, 5, 7, 332, 351], [.V7 7 2 351 1], [], [2, 3, 4, 5, 7, 332, 351]⟩
 | 8 => ⟨[0, 2, 3, 4, 5, 6, 7, 42], [2, 3, 4, 5, 7, 332, 351], [], [], [2, 3, 4, 5, 7, 332, 351]⟩
 | 9 => ⟨[0, 2, 3, 4, 5, 6, 7], [2, 3, 4, 5, 7, 332, 351], [], [], [2, 3, 4, 5, 7, 332, 351]⟩
 | 10 => ⟨[0, 2, 3, 4, 5, 6, 7, 55], [2, 3, 4, 5, 7, 332, 351], [], [], [2, 3, 4, 5, 7, 332, 351]⟩
 | 11 => ⟨[0, 2, 3, 4, 5, 6, 7], [2, 3, 4, 5, 7, 332, 351], [], [], [2, 3, 4, 5, 7, 332, 351]⟩
 | 12 => ⟨[0, 2, 3, 4, 5, 6], [2, 3, 4, 5, 332], [], [], [2, 3, 4, 5, 332]⟩
 | 13 => ⟨[0, 2, 3, 4, 5, 6, 8], [2, 3, 4, 5, 332], [], [], [2, 3, 4, 5, 332]⟩
 | 14 => ⟨[0, 2, 3, 4, 5, 6, 8, 72], [2, 3, 4, 5, 332], [], [], [2, 3, 4, 5, 332]⟩
 | 15 => ⟨[0, 2, 3, 4, 6, 8, 9], [2, 3, 4, 9, 332], [], [], [2, 3, 4, 9, 332]⟩
 | 16 => ⟨[0, 2, 3, 4, 5, 6, 8, 9], [2, 3, 4, 5, 9, 332], [.thaw 5 5 5], [], [2, 3, 4, 5, 9, 332]⟩
 | 17 => ⟨[0, 2, 3, 4, 5, 6, 8, 9, 10], [2, 3, 4, 5, 9, 332], [], [], [2, 3, 4, 5, 9, 332]⟩
 | 18 => ⟨[0, 2, 3, 4, 5, 6, 8, 9, 10, 84], [2, 3, 4, 5, 9, 332], [], [], [2, 3, 4, 5, 9, 332]⟩
 | 19 => ⟨[0, 2, 3, 4, 5, 6], [2, 3, 4, 5, 332], [], [], [2, 3, 4, 5, 332]⟩
 | 20 => ⟨[0, 2, 3, 4, 5, 6, 8, 10, 11], [2, 3, 4, 5, 11, 92, 332], [], [.ren 92 381], [2, 3, 4, 5, 11, 92, 332, 381]⟩
 | 21 => ⟨[0, 2, 3, 4, 5, 6, 10, 11, 108], [2, 3, 4, 5, 11, 332, 381], [], [], [2, 3, 4, 5, 11, 332, 381]⟩
 | 22 => ⟨[0, 2, 3, 4, 5, 6, 10, 11, 12], [2, 3, 4, 5, 11, 12, 332, 381], [], [], [2, 3, 4, 5, 11, 12, 332, 381]⟩
 | 23 => ⟨[0, 2, 3, 4, 5, 6, 10, 12], [2, 3, 4, 5, 12, 332], [.nrm 12 [none, none, none, none, some 5]], [], [2, 3, 4, 5, 12, 332]⟩
 | 24 => ⟨[0, 2, 3, 4, 5, 6], [2, 3, 4, 5, 122], [], [.ren 122 332], [2, 3, 4, 5, 122, 332]⟩
 | 25 => ⟨[0, 2, 3, 4, 5, 6, 10, 11, 151], [2, 3, 4, 5, 11, 332, 381], [], [], [2, 3, 4, 5, 11, 332, 381]⟩
 | 26 => ⟨[0, 2, 3, 4, 5, 6, 10, 11], [2, 3, 4, 5, 11, 332, 381], [], [], [2, 3, 4, 5, 11, 332, 381]⟩
 | 27 => ⟨[0, 2, 3, 4, 5, 6, 11], [2, 3, 4, 5, 11, 162, 381], [], [.ren 162 332], [2, 3, 4, 5, 11, 162, 332, 381]⟩
 | 28 => ⟨[0, 2, 3, 4, 5, 6], [2, 3, 4, 5, 332], [], [], [2, 3, 4, 5, 332]⟩
 | 29 => ⟨[2], [2], [], [], [2]⟩
 | _ => ⟨[], [], [], [], []⟩
noncomputable abbrev VS : Cx := ⟨Tryd.prog, ⟨id, KN, KL⟩, Kz⟩
theorem XK {args : List PV} {r : PV} (ha : args.length = 1) (h : awp VS Vx (zS Tryd.prog [.cell 2 28] r []) (zR args [])) : PC Tryd.prog 25 args r :=
 zK (X := VS) mixed Tryd.func25 (c := Vx) (by kernel_rfl) (by kernel_rfl) (rs := [.cell 2 28]) (by kernel_rfl) (by kernel_rfl) (by rw [ha]; decide) h
noncomputable def xz : Code := (Tryd.f53.body).getD .skip
def j4 : List (Nat × Nf) := []
def xm : List (Nat × List Nat) := []
def xk : Nat → Ann
 | 0 => ⟨[0, 1], [1000, 1001], [], [], [1000, 1001]⟩
 | 1 => ⟨[0, 1], [1000, 1001], [], [], [1000, 1001]⟩
 | 2 => ⟨[1], [1000, 1001], [], [], [1000, 1001]⟩
 | 3 => ⟨[4, 5], [1000, 1001], [], [], [1000, 1001]⟩
 | _ => ⟨[], [], [], [], []⟩
noncomputable abbrev xB : Cx := ⟨Tryd.prog, ⟨id, j4, xm⟩, xk⟩
theorem ZF {args : List PV} {es es' : List Ent} {r : PV} (ha : args.length = 2) (hl : es'.length = es.length) (he : (es'.all fun e => e.wu es.length) = true) (h : awp xB xz (zS Tryd.prog [.tmp 4, .tmp 5] r es') (zR args es)) : BC Tryd.prog 53 args es r es' :=
 y5 (X := xB) mixed Tryd.func53 (c := xz) (by kernel_rfl) (by kernel_rfl) (rs := [.tmp 4, .tmp 5]) (by kernel_rfl) (by kernel_rfl) (by rw [ha]; decide) hl (fun e h => List.all_eq_true.1 he e h) h
noncomputable def J3 : Code := (Tryd.f57.body).getD .skip
def Jg : List (Nat × Nf) := []
def Je : List (Nat × List Nat) := []
def V4 : Nat → Ann
 | 0 => ⟨[1, 2, 3], [3, 1000, 1001, 1002], [], [], [3, 1000, 1001, 1002]⟩
 | 1 => ⟨[1, 2, 3, 7], [3, 1000, 1001, 1002], [], [], [3, 1000, 1001, 1002]⟩
 | 2 => ⟨[], [1000, 1001, 1002], [], [], [1000, 1001, 1002]⟩
 | 3 => ⟨[2, 12, 13, 14], [1000, 1001, 1002], [], [], [1000, 1001, 1002]⟩
 | 4 => ⟨[2, 12, 13, 14, 15], [1000, 1001, 1002], [], [], [1000, 1001, 1002]⟩
 | 5 => ⟨[2, 5, 12, 13, 14], [5, 1000, 1001, 1002], [], [], [5, 1000, 1001, 1002]⟩
 | 6 => ⟨[2, 12, 13, 14], [1000, 1001, 1002], [], [], [1000, 1001, 1002]⟩
 | 7 => ⟨[2, 12, 13, 14], [1000, 1001, 1002], [], [], [1000, 1001, 1002]⟩
 | _ => ⟨[], [], [], [], []⟩
noncomputable abbrev JR : Cx := ⟨Tryd.prog, ⟨id, Jg, Je⟩, V4⟩
theorem aaa {args : List PV} {es es' : List Ent} {r : PV} (ha : args.length = 3) (hl : es'.length = es.length) (he : (es'.all fun e => e.wu es.length) = true) (h : awp JR J3 (zS Tryd.prog [] r es') (zR args es)) : BC Tryd.prog 57 args es r es' :=
 y5 (X := JR) mixed Tryd.func57 (c := J3) (by kernel_rfl) (by kernel_rfl) (rs := []) (by kernel_rfl) (by kernel_rfl) (by rw [ha]; decide) hl (fun e h => List.all_eq_true.1 he e h) h
noncomputable def adg : Code := (Tryd.f28.body).getD .skip
def abm : List (Nat × Nf) := []
def aa0 : List (Nat × List Nat) := []
def abv : Nat → Ann
 | 0 => ⟨[1], [1], [], [], [1]⟩
 | 1 => ⟨[1, 3], [1, 3, 322], [.self 3 0, .Yo 3 1 322 5], [], [1, 3, 322]⟩
 | 2 => ⟨[1, 3, 4], [1, 3, 4, 322], [], [], [1, 3, 4, 322]⟩
 | 3 => ⟨[1, 3, 4], [1, 3, 4, 322], [], [], [1, 3, 4, 322]⟩
 | 4 => ⟨[3], [3, 322], [], [], [3, 322]⟩
 | 5 => ⟨[2], [], [], [], []⟩
 | _ => ⟨[], [], [], [], []⟩
noncomputable abbrev acv : Cx := ⟨Tryd.prog, ⟨id, abm, aa0⟩, abv⟩
theorem aei {args : List PV} {r : PV} (ha : args.length = 1) (h : awp acv adg (zS Tryd.prog [.tmp 2] r []) (zR args [])) : PC Tryd.prog 28 args r :=
 zK (X := acv) mixed Tryd.func28 (c := adg) (by kernel_rfl) (by kernel_rfl) (rs := [.tmp 2]) (by kernel_rfl) (by kernel_rfl) (by rw [ha]; decide) h
noncomputable def ad9 : Code := (Tryd.f32.body).getD .skip
def abD : List (Nat × Nf) := []
def aaX : List (Nat × List Nat) := []
def aa8 : Nat → Ann
 | 0 => ⟨[1], [1], [], [], [1]⟩
 | 1 => ⟨[1, 3], [1], [], [], [1]⟩
 | 2 => ⟨[1, 3, 20], [1], [], [], [1]⟩
 | 3 => ⟨[2], [], [.nrm 2 [some 3]], [], []⟩
 | 4 => ⟨[2], [30], [], [.ren 30 2], [2, 30]⟩
 | _ => ⟨[], [], [], [], []⟩
noncomputable abbrev acM : Cx := ⟨Tryd.prog, ⟨id, abD, aaX⟩, aa8⟩
theorem ae9 {args : List PV} {r : PV} (ha : args.length = 1) (h : awp acM ad9 (zS Tryd.prog [.tmp 2] r []) (zR args [])) : PC Tryd.prog 32 args r :=
 zK (X := acM) mixed Tryd.func32 (c := ad9) (by kernel_rfl) (by kernel_rfl) (rs := [.tmp 2]) (by kernel_rfl) (by kernel_rfl) (by rw [ha]; decide) h
noncomputable def KC : Code := (Tryd.f33.body).getD .skip
def WY : List (Nat × Nf) := [(74, [none, none, none, some 5, none, none]), (89, [none, none, none, some 5, none, none]), (102, [none, none, none, some 5, none, none])]
def Ki : List (Nat × List Nat) := []
def WZ : Nat → Ann
 | 0 => ⟨[1, 2, 3, 4, 5, 10], [5, 10], [.nrm 10 [none, none, none, some 5, none, none]], [], [5, 10]⟩
 | 1 => ⟨[1, 2, 3, 4, 5, 10, 11], [5, 10], [], [], [5, 10]⟩
 | 2 => ⟨[1, 3, 4, 5, 10, 11, 12], [5, 10], [], [], [5, 10]⟩
 | 3 => ⟨[1, 4, 5, 10, 12, 13], [5, 10], [], [], [5, 10]⟩
 | 4 => ⟨[1, 4, 5, 10, 12, 13, 14], [5, 10, 29], [], [.ren 29 14], [5, 10, 14, 29]⟩
 | 5 => ⟨[1, 4, 5, 10, 12, 13, 14, 31], [5, 10, 14], [], [], [5, 10, 14]⟩
 | 6 => ⟨[1, 4, 5, 10, 12, 13, 14, 31, 32], [5, 10, 14], [], [], [5, 10, 14]⟩
 | 7 => ⟨[5, 10, 15], [5, 10, 15], [], [], [5, 10, 15]⟩
 | 8 => ⟨[5, 10, 15, 17], [5, 10, 15], [], [], [5, 10, 15]⟩
 | 9 => ⟨[5, 10, 15, 58], [5, 10, 15], [], [], [5, 10, 15]⟩
 | 10 => ⟨[5, 10, 15], [5, 10, 15], [], [], [5, 10, 15]⟩
 | 11 => ⟨[5, 10, 15, 17], [5, 10, 15], [], [], [5, 10, 15]⟩
 | 12 => ⟨[10], [10], [], [], [10]⟩
 | 13 => ⟨[1, 10, 12, 13, 14, 31, 70], [10, 14], [], [], [10, 14]⟩
 | 14 => ⟨[10], [10], [], [], [10]⟩
 | 15 => ⟨[1, 10, 12, 13, 14, 75], [10, 14], [], [], [10, 14]⟩
 | 16 => ⟨[10], [10], [], [], [10]⟩
 | 17 => ⟨[10], [10], [], [], [10]⟩
 | _ => ⟨[], [], [], [], []⟩
noncomputable abbrev KS : Cx := ⟨Tryd.prog, ⟨id, WY, Ki⟩, WZ⟩
theorem JS {args : List PV} {r : PV} (ha : args.length = 5) (h : awp KS KC (zS Tryd.prog [.cell 10 39] r []) (zR args [])) : PC Tryd.prog 33 args r :=
 zK (X := KS) mixed Tryd.func33 (c := KC) (by kernel_rfl) (by kernel_rfl) (rs := [.cell 10 39]) (by kernel_rfl) (by kernel_rfl) (by rw [ha]; decide) h
noncomputable def adn : Code := (Tryd.f35.body).getD .skip
def abg : List (Nat × Nf) := []
def abk : List (Nat × List Nat) := []
def abG : Nat → Ann
 | 0 => ⟨[0], [], [], [], []⟩
 | 1 => ⟨[0, 3], [], [], [], []⟩
 | 2 => ⟨[3, 6, 7, 8], [], [], [], []⟩
 | 3 => ⟨[3, 6, 7, 8, 9], [], [], [], []⟩
 | 4 => ⟨[3, 5, 6, 7, 8], [5], [], [], [5]⟩
 | 5 => ⟨[3, 6, 7, 8], [], [], [], []⟩
 | 6 => ⟨[3, 6, 7, 8], [], [], [], []⟩
 | 7 => ⟨[2], [], [], [], []⟩
 | _ => ⟨[], [], [], [], []⟩
noncomputable abbrev acx : Cx := ⟨Tryd.prog, ⟨id, abg, abk⟩, abG⟩
theorem aeu {args : List PV} {r : PV} (ha : args.length = 1) (h : awp acx adn (zS Tryd.prog [.tmp 2] r []) (zR args [])) : PC Tryd.prog 35 args r :=
 zK (X := acx) mixed Tryd.func35 (c := adn) (by kernel_rfl) (by kernel_rfl) (rs := [.tmp 2]) (by kernel_rfl) (by kernel_rfl) (by rw [ha]; decide) h
noncomputable def Qa : Code := (Tryd.f10.body).getD .skip
def Zx : List (Nat × Nf) := []
def Zj : List (Nat × List Nat) := []
def ZH : Nat → Ann
 | 0 => ⟨[0, 1, 2, 3, 4], [], [], [], []⟩
 | 1 => ⟨[0, 1, 2, 3, 4, 11], [], [], [], []⟩
 | 2 => ⟨[0, 1, 2, 3, 4, 11, 27], [], [], [], []⟩
 | 3 => ⟨[10], [], [], [], []⟩
 | 4 => ⟨[1, 2, 3, 4, 12], [12], [], [], [12]⟩
 | 5 => ⟨[12, 13], [12, 13], [], [], [12, 13]⟩
 | 6 => ⟨[12, 13, 14, 15], [12, 13, 14], [], [], [12, 13, 14]⟩
 | 7 => ⟨[12, 13, 14, 15, 16, 17], [12, 13, 14], [], [], [12, 13, 14]⟩
 | 8 => ⟨[12, 13, 14, 15, 16, 17, 50], [12, 13, 14], [], [], [12, 13, 14]⟩
 | 9 => ⟨[10], [], [], [], []⟩
 | 10 => ⟨[12, 13, 14, 17, 18, 19], [12, 13, 14, 18], [], [], [12, 13, 14, 18]⟩
 | 11 => ⟨[10], [], [], [], []⟩
 | _ => ⟨[], [], [], [], []⟩
noncomputable abbrev ZY : Cx := ⟨Tryd.prog, ⟨id, Zx, Zj⟩, ZH⟩
theorem Ve {args : List PV} {r : PV} (ha : args.length = 5) (h : awp ZY Qa (zS Tryd.prog [.tmp 10] r []) (zR args [])) : PC Tryd.prog 10 args r :=
 zK (X := ZY) mixed Tryd.func10 (c := Qa) (by kernel_rfl) (by kernel_rfl) (rs := [.tmp 10]) (by kernel_rfl) (by kernel_rfl) (by rw [ha]; decide) h
attribute [go_sem] YL YJ Yq jT jR jS aaP abP abM ac2 ad1 acI Qw Qo Qz abe aba abh adT adL acT ac7 ac9 adJ abR abd aa3 YN YW YZ abw aaZ abn abC aaY abb aaR abB abl Zv Zm ZC KQ KP KH aaf YU aao Xe JX J9 Y5 YV Yn X4 XY X5 xG xJ xD ZB Zk ZE abL abJ aa1 afG afb aff QF QJ QL Zn ZG Zh QE Qu Qs adK ad7 ady QT Qn QR aa2 abK abA abu aa4 abf VQ Vl VL KM KF KI YG Y4 YE YF YM aac aaj aan YO y7 y8 y9 ade adi aea abF abS abN afI afz afk Zq Zy Zf vS vR vZ aeb adv adk adF adf acO adE adM acp Q3 Q0 Q7 Kk WU WX Kg WV Ke Zz Zi Zw KA KW KG Kc Kl W9 Kz KN KL xk j4 xm V4 Jg Je abv abm aa0 aa8 abD aaX WZ WY Ki abG abg abk ZH Zx Zj ty3 ty4 ty5 ty9 axE axC axj axl aw2 axF axt axn axs axw axo axv axr axA axm axi axz av8 awk awt awC awj aw8 awE zt.yn zg.yn za.yn zz.yn qE.yn wB.yn zk.yn xg.yn pvL
theorem pvE : (∀ x : zt, x.pv = .agg [.int .i64 x.Text, .int .i64 x.Marks, .int .i64 x.zo, .int .i64 x.In]) ∧ (∀ x : zg, x.pv = .agg [.str x.Name, .str x.Value]) ∧ (∀ x : za, x.pv = .agg [.str x.Kind, .str x.Text, .list 1 (x.Marks.map PV.str), .list 2 (x.zo.map zg.pv), .list 5 (x.Kids.map za.pv)]) ∧ (∀ x : zz, x.pv = .agg [.int .u8 x.Kind, .int .i64 x.From, .int .i64 x.To, .list 5 (x.wC.map za.pv), .str x.Name, .str x.Value]) ∧ (∀ x : qE, x.pv = .agg [.list 1 (x.path.map (PV.int .i64)), .str x.in_.Kind, .str x.in_.Text, .list 1 (x.in_.Marks.map PV.str), .list 2 (x.in_.zo.map zg.pv), .list 5 (x.in_.Kids.map za.pv), .int .i64 x.from_, .int .i64 x.to_]) ∧ (∀ x : wB, x.pv = .agg [.list 1 (x.Path.map (PV.int .i64)), .int .i64 x.Index, .int .i64 x.Offset]) ∧ (∀ x : zk, x.pv = .agg [.int .i64 x.Pos, .int .i64 x.Old, .int .i64 x.New]) ∧ (∀ x : xg, x.pv = .agg [.int .u8 x.s.Kind, .int .i64 x.s.From, .int .i64 x.s.To, .list 5 (x.s.wC.map za.pv), .str x.s.Name, .str x.s.Value, .list 3 (x.changed.map zk.pv)]) ∧ (∀ (α : Type) (sz : Nat) (f : α → PV) (l : List α), pvL sz f l = .list sz (l.map f)) :=
 ⟨zt.yn, zg.yn, za.yn, zz.yn, qE.yn, wB.yn, zk.yn, xg.yn, fun _ _ _ _ => rfl⟩
theorem lsE {α β : Type} (f : α → β) : (∀ a l, List.map f (a :: l) = f a :: List.map f l) ∧ List.map f [] = [] ∧ (∀ a b, List.map f (a ++ b) = List.map f a ++ List.map f b) :=
 ⟨fun _ _ => rfl, rfl, fun a b => List.map_append⟩
end Go.Proofs.YtclohbgnaopjfaaDoor
