/- Texts of the proof of stepThroughCard -/
import Derived.Test.YtclohbgnaopjfaaDoorAgT
import Derived.Test.YtclohbgnaopjfaaDoorAwT
namespace Go.Proofs.YtclohbgnaopjfaaDoor
set_option linter.unusedSimpArgs false
set_option linter.unusedVariables false
open Go
set_option maxRecDepth 100000
noncomputable def aal : Code := (Tryd.f58.body).getD .skip
def Yh : List (Nat × Nf) := []
def YM : List (Nat × List Nat) := []
def XJ : Nat → Ann
  | 0 => ⟨[1], [1], [], [], [1]⟩
  | 1 => ⟨[2], [], [], [], []⟩
  | _ => ⟨[], [], [], [], []⟩
noncomputable abbrev aaL : Cx := ⟨Tryd.prog, ⟨id, Yh, YM⟩, XJ⟩
theorem abW {args : List PV} {r : PV} (ha : args.length = 1) (h : awp aaL aal (zS Tryd.prog [.tmp 2] r []) (zR args [])) : PC Tryd.prog 58 args r :=
  zL (X := aaL) mixed Tryd.func58 (c := aal) (by kernel_rfl) (by kernel_rfl) (rs := [.tmp 2]) (by kernel_rfl) (by kernel_rfl) (by rw [ha]; decide) h
noncomputable def jT : Code := (Tryd.f63.body).getD .skip
def jG : List (Nat × Nf) := []
def jH : List (Nat × List Nat) := []
def jI : Nat → Ann
  | 0 => ⟨[0, 2], [], [], [], []⟩
  | 1 => ⟨[2, 4], [4], [], [], [4]⟩
  | 2 => ⟨[2, 4, 6], [4], [], [], [4]⟩
  | 3 => ⟨[2, 4], [4], [], [], [4]⟩
  | 4 => ⟨[2], [], [], [], []⟩
  | _ => ⟨[], [], [], [], []⟩
noncomputable abbrev jO : Cx := ⟨Tryd.prog, ⟨id, jG, jH⟩, jI⟩
theorem yZ {args : List PV} {r : PV} (ha : args.length = 1) (h : awp jO jT (zS Tryd.prog [.tmp 2] r []) (zR args [])) : PC Tryd.prog 63 args r :=
  zL (X := jO) mixed Tryd.func63 (c := jT) (by kernel_rfl) (by kernel_rfl) (rs := [.tmp 2]) (by kernel_rfl) (by kernel_rfl) (by rw [ha]; decide) h
noncomputable def acC : Code := (Tryd.f27.body).getD .skip
def aad : List (Nat × Nf) := []
def aar : List (Nat × List Nat) := []
def aaZ : Nat → Ann
  | 0 => ⟨[0], [], [], [], []⟩
  | 1 => ⟨[0, 3], [], [], [], []⟩
  | 2 => ⟨[3, 6, 7, 8], [], [], [], []⟩
  | 3 => ⟨[3, 6, 7, 8, 9], [], [], [], []⟩
  | 4 => ⟨[3, 5, 6, 7, 8], [5], [], [], [5]⟩
  | 5 => ⟨[3, 6, 7, 8], [], [], [], []⟩
  | 6 => ⟨[3, 6, 7, 8], [], [], [], []⟩
  | 7 => ⟨[2], [], [], [], []⟩
  | _ => ⟨[], [], [], [], []⟩
noncomputable abbrev abO : Cx := ⟨Tryd.prog, ⟨id, aad, aar⟩, aaZ⟩
theorem aec {args : List PV} {r : PV} (ha : args.length = 1) (h : awp abO acC (zS Tryd.prog [.tmp 2] r []) (zR args [])) : PC Tryd.prog 27 args r :=
  zL (X := abO) mixed Tryd.func27 (c := acC) (by kernel_rfl) (by kernel_rfl) (rs := [.tmp 2]) (by kernel_rfl) (by kernel_rfl) (by rw [ha]; decide) h
noncomputable def aev : Code := (Tryd.f34.body).getD .skip
def acR : List (Nat × Nf) := []
def acd : List (Nat × List Nat) := []
def acT : Nat → Ann
  | 0 => ⟨[1], [1], [], [], [1]⟩
  | 1 => ⟨[1, 4], [1], [], [], [1]⟩
  | 2 => ⟨[2], [], [], [], []⟩
  | 3 => ⟨[2], [], [], [], []⟩
  | _ => ⟨[], [], [], [], []⟩
noncomputable abbrev aeR : Cx := ⟨Tryd.prog, ⟨id, acR, acd⟩, acT⟩
theorem afk {args : List PV} {r : PV} (ha : args.length = 1) (h : awp aeR aev (zS Tryd.prog [.tmp 2] r []) (zR args [])) : PC Tryd.prog 34 args r :=
  zL (X := aeR) mixed Tryd.func34 (c := aev) (by kernel_rfl) (by kernel_rfl) (rs := [.tmp 2]) (by kernel_rfl) (by kernel_rfl) (by rw [ha]; decide) h
noncomputable def QO : Code := (Tryd.f42.body).getD .skip
def Qr : List (Nat × Nf) := []
def Qh : List (Nat × List Nat) := []
def Qs : Nat → Ann
  | 0 => ⟨[0, 1], [], [], [], []⟩
  | 1 => ⟨[0, 1, 10], [], [], [], []⟩
  | 2 => ⟨[4], [], [], [], []⟩
  | 3 => ⟨[0, 1, 12, 13], [], [], [], []⟩
  | 4 => ⟨[0, 1, 12, 13, 14], [], [], [], []⟩
  | 5 => ⟨[0, 1, 5, 12, 13], [], [], [], []⟩
  | 6 => ⟨[0, 1, 12, 13, 24], [], [], [], []⟩
  | 7 => ⟨[4], [], [], [], []⟩
  | 8 => ⟨[0, 1, 12, 13], [], [], [], []⟩
  | 9 => ⟨[4], [], [], [], []⟩
  | _ => ⟨[], [], [], [], []⟩
noncomputable abbrev QQ : Cx := ⟨Tryd.prog, ⟨id, Qr, Qh⟩, Qs⟩
theorem Vp {args : List PV} {r : PV} (ha : args.length = 2) (h : awp QQ QO (zS Tryd.prog [.tmp 4] r []) (zR args [])) : PC Tryd.prog 42 args r :=
  zL (X := QQ) mixed Tryd.func42 (c := QO) (by kernel_rfl) (by kernel_rfl) (rs := [.tmp 4]) (by kernel_rfl) (by kernel_rfl) (by rw [ha]; decide) h
noncomputable def ac7 : Code := (Tryd.f104.body).getD .skip
def aaD : List (Nat × Nf) := []
def aaV : List (Nat × List Nat) := []
def aao : Nat → Ann
  | 0 => ⟨[2, 3], [2, 3], [], [], [2, 3]⟩
  | 1 => ⟨[4], [], [], [], []⟩
  | _ => ⟨[], [], [], [], []⟩
noncomputable abbrev abM : Cx := ⟨Tryd.prog, ⟨id, aaD, aaV⟩, aao⟩
theorem ad3 {args : List PV} {r : PV} (ha : args.length = 2) (h : awp abM ac7 (zS Tryd.prog [.tmp 4] r []) (zR args [])) : PC Tryd.prog 104 args r :=
  zL (X := abM) mixed Tryd.func104 (c := ac7) (by kernel_rfl) (by kernel_rfl) (rs := [.tmp 4]) (by kernel_rfl) (by kernel_rfl) (by rw [ha]; decide) h
noncomputable def aex : Code := (Tryd.f80.body).getD .skip
def acn : List (Nat × Nf) := []
def acQ : List (Nat × List Nat) := []
def ac0 : Nat → Ann
  | 0 => ⟨[0], [], [], [], []⟩
  | 1 => ⟨[0, 3], [], [], [], []⟩
  | 2 => ⟨[2], [], [], [], []⟩
  | _ => ⟨[], [], [], [], []⟩
noncomputable abbrev aeN : Cx := ⟨Tryd.prog, ⟨id, acn, acQ⟩, ac0⟩
theorem ae9 {args : List PV} {r : PV} (ha : args.length = 1) (h : awp aeN aex (zS Tryd.prog [.tmp 2] r []) (zR args [])) : PC Tryd.prog 80 args r :=
  zL (X := aeN) mixed Tryd.func80 (c := aex) (by kernel_rfl) (by kernel_rfl) (rs := [.tmp 2]) (by kernel_rfl) (by kernel_rfl) (by rw [ha]; decide) h
noncomputable def aeB : Code := (Tryd.f111.body).getD .skip
def acA : List (Nat × Nf) := []
def acP : List (Nat × List Nat) := []
def ace : Nat → Ann
  | 0 => ⟨[0], [], [], [], []⟩
  | 1 => ⟨[0, 5, 6, 7], [], [], [], []⟩
  | 2 => ⟨[0, 5, 6, 7, 8], [], [], [], []⟩
  | 3 => ⟨[0, 3, 4, 5, 6, 7], [], [], [], []⟩
  | 4 => ⟨[0, 5, 6, 7, 27], [], [], [], []⟩
  | 5 => ⟨[2], [], [], [], []⟩
  | 6 => ⟨[0, 5, 6, 7], [], [], [], []⟩
  | 7 => ⟨[2], [], [], [], []⟩
  | _ => ⟨[], [], [], [], []⟩
noncomputable abbrev aej : Cx := ⟨Tryd.prog, ⟨id, acA, acP⟩, ace⟩
theorem afg {args : List PV} {r : PV} (ha : args.length = 1) (h : awp aej aeB (zS Tryd.prog [.tmp 2] r []) (zR args [])) : PC Tryd.prog 111 args r :=
  zL (X := aej) mixed Tryd.func111 (c := aeB) (by kernel_rfl) (by kernel_rfl) (rs := [.tmp 2]) (by kernel_rfl) (by kernel_rfl) (by rw [ha]; decide) h
noncomputable def acO : Code := (Tryd.f81.body).getD .skip
def aai : List (Nat × Nf) := []
def aaJ : List (Nat × List Nat) := []
def aaw : Nat → Ann
  | 0 => ⟨[0], [], [], [], []⟩
  | 1 => ⟨[2], [], [], [], []⟩
  | _ => ⟨[], [], [], [], []⟩
noncomputable abbrev ack : Cx := ⟨Tryd.prog, ⟨id, aai, aaJ⟩, aaw⟩
theorem adD {args : List PV} {r : PV} (ha : args.length = 1) (h : awp ack acO (zS Tryd.prog [.tmp 2] r []) (zR args [])) : PC Tryd.prog 81 args r :=
  zL (X := ack) mixed Tryd.func81 (c := acO) (by kernel_rfl) (by kernel_rfl) (rs := [.tmp 2]) (by kernel_rfl) (by kernel_rfl) (by rw [ha]; decide) h
noncomputable def aaN : Code := (Tryd.f93.body).getD .skip
def X5 : List (Nat × Nf) := []
def X7 : List (Nat × List Nat) := []
def Yw : Nat → Ann
  | 0 => ⟨[1], [1], [], [], [1]⟩
  | 1 => ⟨[1, 9], [1], [], [], [1]⟩
  | 2 => ⟨[2], [], [], [], []⟩
  | 3 => ⟨[1, 3], [1, 3], [.thaw 3 3 1], [], [1, 3]⟩
  | 4 => ⟨[1, 3, 34, 35, 36], [1, 3], [], [], [1, 3]⟩
  | 5 => ⟨[1, 3, 34, 35, 36, 37], [1, 3], [], [], [1, 3]⟩
  | 6 => ⟨[1, 3, 5, 34, 35, 36], [1, 3, 5], [], [], [1, 3, 5]⟩
  | 7 => ⟨[1, 3, 5, 34, 35, 36, 43], [1, 3, 5], [], [], [1, 3, 5]⟩
  | 8 => ⟨[2], [], [], [], []⟩
  | 9 => ⟨[1, 3, 34, 35, 36], [1, 3], [], [], [1, 3]⟩
  | 10 => ⟨[1, 3, 34, 35, 36], [1, 3], [], [], [1, 3]⟩
  | 11 => ⟨[1, 69], [1], [], [], [1]⟩
  | 12 => ⟨[2], [], [], [], []⟩
  | 13 => ⟨[1, 71, 72, 73], [1], [], [], [1]⟩
  | 14 => ⟨[1, 71, 72, 73, 74], [1], [], [], [1]⟩
  | 15 => ⟨[1, 6, 7, 71, 72, 73], [1, 7], [], [], [1, 7]⟩
  | 16 => ⟨[1, 71, 72, 73, 94], [1], [], [], [1]⟩
  | 17 => ⟨[2], [], [], [], []⟩
  | 18 => ⟨[1, 71, 72, 73], [1], [], [], [1]⟩
  | 19 => ⟨[2], [], [], [], []⟩
  | _ => ⟨[], [], [], [], []⟩
noncomputable abbrev aan : Cx := ⟨Tryd.prog, ⟨id, X5, X7⟩, Yw⟩
theorem abN {args : List PV} {r : PV} (ha : args.length = 1) (h : awp aan aaN (zS Tryd.prog [.tmp 2] r []) (zR args [])) : PC Tryd.prog 93 args r :=
  zL (X := aan) mixed Tryd.func93 (c := aaN) (by kernel_rfl) (by kernel_rfl) (rs := [.tmp 2]) (by kernel_rfl) (by kernel_rfl) (by rw [ha]; decide) h
noncomputable def ab4 : Code := (Tryd.f94.body).getD .skip
def aau : List (Nat × Nf) := []
def aaj : List (Nat × List Nat) := []
def aaP : Nat → Ann
  | 0 => ⟨[1], [1], [], [], [1]⟩
  | 1 => ⟨[1, 7], [1], [], [], [1]⟩
  | 2 => ⟨[2], [], [], [], []⟩
  | 3 => ⟨[1, 3], [1], [], [], [1]⟩
  | 4 => ⟨[3, 9, 10, 11], [], [], [], []⟩
  | 5 => ⟨[3, 9, 10, 11, 12], [], [], [], []⟩
  | 6 => ⟨[3, 5, 9, 10, 11], [5], [], [], [5]⟩
  | 7 => ⟨[3, 9, 10, 11], [], [], [], []⟩
  | 8 => ⟨[3, 9, 10, 11], [], [], [], []⟩
  | 9 => ⟨[2], [], [], [], []⟩
  | _ => ⟨[], [], [], [], []⟩
noncomputable abbrev ab2 : Cx := ⟨Tryd.prog, ⟨id, aau, aaj⟩, aaP⟩
theorem aeb {args : List PV} {r : PV} (ha : args.length = 1) (h : awp ab2 ab4 (zS Tryd.prog [.tmp 2] r []) (zR args [])) : PC Tryd.prog 94 args r :=
  zL (X := ab2) mixed Tryd.func94 (c := ab4) (by kernel_rfl) (by kernel_rfl) (rs := [.tmp 2]) (by kernel_rfl) (by kernel_rfl) (by rw [ha]; decide) h
noncomputable def adh : Code := (Tryd.f64.body).getD .skip
def aaM : List (Nat × Nf) := []
def aay : List (Nat × List Nat) := []
def aaF : Nat → Ann
  | 0 => ⟨[1], [1], [], [], [1]⟩
  | 1 => ⟨[1, 3], [1], [], [], [1]⟩
  | 2 => ⟨[2], [], [], [], []⟩
  | 3 => ⟨[1, 7], [1], [], [], [1]⟩
  | 4 => ⟨[2], [], [], [], []⟩
  | 5 => ⟨[11], [], [], [], []⟩
  | 6 => ⟨[2], [], [], [], []⟩
  | 7 => ⟨[2], [], [], [], []⟩
  | _ => ⟨[], [], [], [], []⟩
noncomputable abbrev acD : Cx := ⟨Tryd.prog, ⟨id, aaM, aay⟩, aaF⟩
theorem adJ {args : List PV} {r : PV} (ha : args.length = 1) (h : awp acD adh (zS Tryd.prog [.tmp 2] r []) (zR args [])) : PC Tryd.prog 64 args r :=
  zL (X := acD) mixed Tryd.func64 (c := adh) (by kernel_rfl) (by kernel_rfl) (rs := [.tmp 2]) (by kernel_rfl) (by kernel_rfl) (by rw [ha]; decide) h
noncomputable def ab3 : Code := (Tryd.f36.body).getD .skip
def aas : List (Nat × Nf) := []
def aa7 : List (Nat × List Nat) := []
def aaE : Nat → Ann
  | 0 => ⟨[1], [1], [], [], [1]⟩
  | 1 => ⟨[2], [], [], [], []⟩
  | _ => ⟨[], [], [], [], []⟩
noncomputable abbrev ac8 : Cx := ⟨Tryd.prog, ⟨id, aas, aa7⟩, aaE⟩
theorem adB {args : List PV} {r : PV} (ha : args.length = 1) (h : awp ac8 ab3 (zS Tryd.prog [.tmp 2] r []) (zR args [])) : PC Tryd.prog 36 args r :=
  zL (X := ac8) mixed Tryd.func36 (c := ab3) (by kernel_rfl) (by kernel_rfl) (rs := [.tmp 2]) (by kernel_rfl) (by kernel_rfl) (by rw [ha]; decide) h
noncomputable def ZQ : Code := (Tryd.f70.body).getD .skip
def Ze : List (Nat × Nf) := []
def Zf : List (Nat × List Nat) := []
def Zc : Nat → Ann
  | 0 => ⟨[0], [5], [], [], [5]⟩
  | 1 => ⟨[0, 4], [5], [], [], [5]⟩
  | 2 => ⟨[2], [5], [], [], [5]⟩
  | 3 => ⟨[2], [5], [], [], [5]⟩
  | _ => ⟨[], [], [], [], []⟩
noncomputable abbrev ZI : Cx := ⟨Tryd.prog, ⟨id, Ze, Zf⟩, Zc⟩
theorem Kr {args : List PV} {r : PV} (ha : args.length = 1) (h : awp ZI ZQ (zS Tryd.prog [.tmp 2] r []) (zR args [])) : PC Tryd.prog 70 args r :=
  zL (X := ZI) mixed Tryd.func70 (c := ZQ) (by kernel_rfl) (by kernel_rfl) (rs := [.tmp 2]) (by kernel_rfl) (by kernel_rfl) (by rw [ha]; decide) h
noncomputable def KM : Code := (Tryd.f100.body).getD .skip
def Km : List (Nat × Nf) := []
def Kb : List (Nat × List Nat) := []
def WT : Nat → Ann
  | 0 => ⟨[0], [5], [], [], [5]⟩
  | 1 => ⟨[0, 4], [5], [], [], [5]⟩
  | 2 => ⟨[2], [5], [], [], [5]⟩
  | 3 => ⟨[2], [5], [], [], [5]⟩
  | _ => ⟨[], [], [], [], []⟩
noncomputable abbrev KZ : Cx := ⟨Tryd.prog, ⟨id, Km, Kb⟩, WT⟩
theorem JV {args : List PV} {r : PV} (ha : args.length = 1) (h : awp KZ KM (zS Tryd.prog [.tmp 2] r []) (zR args [])) : PC Tryd.prog 100 args r :=
  zL (X := KZ) mixed Tryd.func100 (c := KM) (by kernel_rfl) (by kernel_rfl) (rs := [.tmp 2]) (by kernel_rfl) (by kernel_rfl) (by rw [ha]; decide) h
noncomputable def aaU : Code := (Tryd.f75.body).getD .skip
def Yy : List (Nat × Nf) := [(28, [none, none, some 1, some 2, some 5]), (38, [none, none, some 1, some 2, some 5])]
def Yk : List (Nat × List Nat) := []
def XL : Nat → Ann
  | 0 => ⟨[1, 2, 4], [2, 4], [.nrm 4 [none, none, some 1, some 2, some 5]], [], [2, 4]⟩
  | 1 => ⟨[2, 4, 8, 9, 10], [2, 4], [], [], [2, 4]⟩
  | 2 => ⟨[2, 4, 8, 9, 10, 11], [2, 4], [], [], [2, 4]⟩
  | 3 => ⟨[2, 4, 7, 8, 9, 10], [2, 4], [], [], [2, 4]⟩
  | 4 => ⟨[2, 4, 7, 8, 9, 10, 27], [2, 4], [], [], [2, 4]⟩
  | 5 => ⟨[4, 5], [4], [], [], [4]⟩
  | 6 => ⟨[2, 4, 8, 9, 10], [2, 4], [], [], [2, 4]⟩
  | 7 => ⟨[2, 4, 8, 9, 10], [2, 4], [], [], [2, 4]⟩
  | 8 => ⟨[2, 4, 37], [2, 4], [], [], [2, 4]⟩
  | 9 => ⟨[4, 5], [4], [], [], [4]⟩
  | 10 => ⟨[4, 5], [4], [], [], [4]⟩
  | _ => ⟨[], [], [], [], []⟩
noncomputable abbrev aa8 : Cx := ⟨Tryd.prog, ⟨id, Yy, Yk⟩, XL⟩
theorem acL {args : List PV} {r : PV} (ha : args.length = 2) (h : awp aa8 aaU (zS Tryd.prog [.cell 4 28, .tmp 5] r []) (zR args [])) : PC Tryd.prog 75 args r :=
  zL (X := aa8) mixed Tryd.func75 (c := aaU) (by kernel_rfl) (by kernel_rfl) (rs := [.cell 4 28, .tmp 5]) (by kernel_rfl) (by kernel_rfl) (by rw [ha]; decide) h
noncomputable def Xr : Code := (Tryd.f97.body).getD .skip
def Jh : List (Nat × Nf) := [(24, [some 1, none, none]), (59, [some 1, none, none]), (65, [some 1, none, none]), (71, [some 1, none, none])]
def Jm : List (Nat × List Nat) := []
def Jg : Nat → Ann
  | 0 => ⟨[1, 2, 4], [2, 4], [.nrm 4 [some 1, none, none]], [], [2, 4]⟩
  | 1 => ⟨[1, 2, 4, 23], [2, 4], [], [], [2, 4]⟩
  | 2 => ⟨[4, 5], [4], [], [], [4]⟩
  | 3 => ⟨[1, 2, 4, 6], [2, 4, 6, 342], [.Vz 6 0 342 1], [], [2, 4, 6, 342]⟩
  | 4 => ⟨[1, 2, 4, 6, 26, 27, 28], [2, 4, 6, 342], [], [], [2, 4, 6, 342]⟩
  | 5 => ⟨[1, 2, 4, 6, 26, 27, 28, 29], [2, 4, 6, 342], [], [], [2, 4, 6, 342]⟩
  | 6 => ⟨[1, 2, 4, 6, 7, 8, 26, 27, 28], [2, 4, 6, 8, 342], [], [], [2, 4, 6, 8, 342]⟩
  | 7 => ⟨[1, 2, 4, 6, 7, 8, 9, 26, 27, 28], [2, 4, 6, 8, 342], [], [], [2, 4, 6, 8, 342]⟩
  | 8 => ⟨[1, 2, 4, 6, 8], [2, 4, 6, 8, 342], [], [], [2, 4, 6, 8, 342]⟩
  | 9 => ⟨[1, 2, 4, 6], [2, 4, 6, 342], [], [], [2, 4, 6, 342]⟩
  | 10 => ⟨[1, 2, 4, 6, 7, 8, 9, 26, 27, 28, 44], [2, 4, 6, 8, 342], [], [], [2, 4, 6, 8, 342]⟩
  | 11 => ⟨[1, 2, 4, 6, 26, 27, 28], [2, 4, 6, 342], [], [], [2, 4, 6, 342]⟩
  | 12 => ⟨[1, 2, 4, 6, 7, 8, 51], [2, 4, 6, 8, 342], [], [], [2, 4, 6, 8, 342]⟩
  | 13 => ⟨[4, 6], [4, 6, 342], [], [], [4, 6, 342]⟩
  | 14 => ⟨[4, 5], [4], [], [], [4]⟩
  | 15 => ⟨[1, 2, 4, 6, 7, 8, 60], [2, 4, 6, 8, 342], [], [], [2, 4, 6, 8, 342]⟩
  | 16 => ⟨[4, 6], [4, 6, 342], [], [], [4, 6, 342]⟩
  | 17 => ⟨[4, 5], [4], [], [], [4]⟩
  | 18 => ⟨[1, 2, 4, 6, 26, 27, 28], [2, 4, 6, 342], [], [], [2, 4, 6, 342]⟩
  | 19 => ⟨[4, 6], [4, 6, 342], [], [], [4, 6, 342]⟩
  | 20 => ⟨[4, 5], [4], [], [], [4]⟩
  | _ => ⟨[], [], [], [], []⟩
noncomputable abbrev Xl : Cx := ⟨Tryd.prog, ⟨id, Jh, Jm⟩, Jg⟩
theorem Y5 {args : List PV} {r : PV} (ha : args.length = 2) (h : awp Xl Xr (zS Tryd.prog [.cell 4 149, .tmp 5] r []) (zR args [])) : PC Tryd.prog 97 args r :=
  zL (X := Xl) mixed Tryd.func97 (c := Xr) (by kernel_rfl) (by kernel_rfl) (rs := [.cell 4 149, .tmp 5]) (by kernel_rfl) (by kernel_rfl) (by rw [ha]; decide) h
noncomputable def aav : Code := (Tryd.f74.body).getD .skip
def Ym : List (Nat × Nf) := []
def YL : List (Nat × List Nat) := [(24, [6]), (25, [6]), (26, []), (27, [6]), (28, [6]), (30, [26, 29])]
def Yt : Nat → Ann
  | 0 => ⟨[1, 2], [2], [], [], [2]⟩
  | 1 => ⟨[1, 2, 10], [2], [], [], [2]⟩
  | 2 => ⟨[4, 5], [], [.nrm 4 [some 1]], [], []⟩
  | 3 => ⟨[2, 6, 7], [2, 6], [], [], [2, 6]⟩
  | 4 => ⟨[2, 6, 23], [2, 6], [], [], [2, 6]⟩
  | 5 => ⟨[4, 5], [], [.nrm 4 [some 1]], [], []⟩
  | 6 => ⟨[2, 8], [2, 26], [], [.ren 26 8], [2, 8, 26]⟩
  | 7 => ⟨[7, 8], [8], [], [], [8]⟩
  | 8 => ⟨[4, 5], [8], [], [.ren 8 4], [4, 8]⟩
  | _ => ⟨[], [], [], [], []⟩
noncomputable abbrev aaC : Cx := ⟨Tryd.prog, ⟨id, Ym, YL⟩, Yt⟩
theorem adn {args : List PV} {r : PV} (ha : args.length = 2) (h : awp aaC aav (zS Tryd.prog [.tmp 4, .tmp 5] r []) (zR args [])) : PC Tryd.prog 74 args r :=
  zL (X := aaC) mixed Tryd.func74 (c := aav) (by kernel_rfl) (by kernel_rfl) (rs := [.tmp 4, .tmp 5]) (by kernel_rfl) (by kernel_rfl) (by rw [ha]; decide) h
noncomputable def Yr : Code := (Tryd.f77.body).getD .skip
def Xk : List (Nat × Nf) := []
def Xi : List (Nat × List Nat) := []
def Xt : Nat → Ann
  | 0 => ⟨[1, 2], [2, 1000], [], [], [2, 1000]⟩
  | 1 => ⟨[3], [1000], [], [], [1000]⟩
  | _ => ⟨[], [], [], [], []⟩
noncomputable abbrev X9 : Cx := ⟨Tryd.prog, ⟨id, Xk, Xi⟩, Xt⟩
theorem abj {args : List PV} {es es' : List Ent} {r : PV} (ha : args.length = 2) (hl : es'.length = es.length) (he : (es'.all fun e => e.wG es.length) = true) (h : awp X9 Yr (zS Tryd.prog [.tmp 3] r es') (zR args es)) : BC Tryd.prog 77 args es r es' :=
  xP (X := X9) mixed Tryd.func77 (c := Yr) (by kernel_rfl) (by kernel_rfl) (rs := [.tmp 3]) (by kernel_rfl) (by kernel_rfl) (by rw [ha]; decide) hl (fun e h => List.all_eq_true.1 he e h) h
noncomputable def xD : Code := (Tryd.f76.body).getD .skip
def xq : List (Nat × Nf) := []
def xx : List (Nat × List Nat) := []
def xu : Nat → Ann
  | 0 => ⟨[0, 1], [1000], [], [], [1000]⟩
  | 1 => ⟨[0, 1, 7, 8], [1000], [], [], [1000]⟩
  | 2 => ⟨[0, 1, 7, 8, 9], [1000], [], [], [1000]⟩
  | 3 => ⟨[0, 1, 5, 7, 8], [1000], [], [], [1000]⟩
  | 4 => ⟨[0, 1, 5, 7, 8, 16], [1000], [], [], [1000]⟩
  | 5 => ⟨[4], [1000], [], [], [1000]⟩
  | 6 => ⟨[0, 1, 7, 8], [1000], [], [], [1000]⟩
  | 7 => ⟨[4], [1000], [], [], [1000]⟩
  | _ => ⟨[], [], [], [], []⟩
noncomputable abbrev xA : Cx := ⟨Tryd.prog, ⟨id, xq, xx⟩, xu⟩
theorem Z7 {args : List PV} {es es' : List Ent} {r : PV} (ha : args.length = 2) (hl : es'.length = es.length) (he : (es'.all fun e => e.wG es.length) = true) (h : awp xA xD (zS Tryd.prog [.tmp 4] r es') (zR args es)) : BC Tryd.prog 76 args es r es' :=
  xP (X := xA) mixed Tryd.func76 (c := xD) (by kernel_rfl) (by kernel_rfl) (rs := [.tmp 4]) (by kernel_rfl) (by kernel_rfl) (by rw [ha]; decide) hl (fun e h => List.all_eq_true.1 he e h) h
noncomputable def ZZ : Code := (Tryd.f71.body).getD .skip
def Zm : List (Nat × Nf) := []
def Zd : List (Nat × List Nat) := []
def Zy : Nat → Ann
  | 0 => ⟨[0], [5], [], [], [5]⟩
  | 1 => ⟨[0, 4], [5], [], [], [5]⟩
  | 2 => ⟨[2], [5], [], [], [5]⟩
  | 3 => ⟨[2], [5], [], [], [5]⟩
  | _ => ⟨[], [], [], [], []⟩
noncomputable abbrev ZX : Cx := ⟨Tryd.prog, ⟨id, Zm, Zd⟩, Zy⟩
theorem KD {args : List PV} {r : PV} (ha : args.length = 1) (h : awp ZX ZZ (zS Tryd.prog [.tmp 2] r []) (zR args [])) : PC Tryd.prog 71 args r :=
  zL (X := ZX) mixed Tryd.func71 (c := ZZ) (by kernel_rfl) (by kernel_rfl) (rs := [.tmp 2]) (by kernel_rfl) (by kernel_rfl) (by rw [ha]; decide) h
noncomputable def acH : Code := (Tryd.f78.body).getD .skip
def aaz : List (Nat × Nf) := [(18, [none, none, some 1, some 2, some 5]), (48, [none, none, none, none, some 5])]
def aap : List (Nat × List Nat) := []
def aag : Nat → Ann
  | 0 => ⟨[1, 3, 5, 6], [3, 5, 6], [.nrm 6 [none, none, some 1, some 2, some 5]], [], [3, 5, 6]⟩
  | 1 => ⟨[1, 3, 5, 6, 9], [3, 5, 6], [], [], [3, 5, 6]⟩
  | 2 => ⟨[1, 3, 5, 6, 9, 17], [3, 5, 6], [], [], [3, 5, 6]⟩
  | 3 => ⟨[6, 7], [6], [], [], [6]⟩
  | 4 => ⟨[1, 3, 5, 6, 22], [3, 5, 6], [], [], [3, 5, 6]⟩
  | 5 => ⟨[6, 7], [6], [], [], [6]⟩
  | 6 => ⟨[1, 3, 5, 6], [3, 5, 6, 26], [], [.ren 26 325], [3, 5, 6, 26, 325]⟩
  | 7 => ⟨[3, 6], [3, 6, 325], [], [], [3, 6, 325]⟩
  | 8 => ⟨[6, 7], [6], [], [], [6]⟩
  | _ => ⟨[], [], [], [], []⟩
noncomputable abbrev ac5 : Cx := ⟨Tryd.prog, ⟨id, aaz, aap⟩, aag⟩
theorem adR {args : List PV} {r : PV} (ha : args.length = 3) (h : awp ac5 acH (zS Tryd.prog [.cell 6 28, .tmp 7] r []) (zR args [])) : PC Tryd.prog 78 args r :=
  zL (X := ac5) mixed Tryd.func78 (c := acH) (by kernel_rfl) (by kernel_rfl) (rs := [.cell 6 28, .tmp 7]) (by kernel_rfl) (by kernel_rfl) (by rw [ha]; decide) h
noncomputable def agD : Code := (Tryd.f46.body).getD .skip
def aeC : List (Nat × Nf) := [(24, [none, none, some 1, some 2, some 5]), (37, [none, none, some 1, some 2, some 5]), (58, [none, none, none, some 2, none])]
def aeW : List (Nat × List Nat) := []
def aeV : Nat → Ann
  | 0 => ⟨[2, 3, 4], [2, 3, 4], [.nrm 4 [none, none, some 1, some 2, some 5]], [], [2, 3, 4]⟩
  | 1 => ⟨[2, 3, 4, 7, 8], [2, 3, 4], [], [], [2, 3, 4]⟩
  | 2 => ⟨[2, 3, 4, 7, 23], [2, 3, 4], [], [], [2, 3, 4]⟩
  | 3 => ⟨[4, 5, 6], [4], [], [], [4]⟩
  | 4 => ⟨[2, 3, 4, 7, 9], [2, 3, 4, 9], [], [], [2, 3, 4, 9]⟩
  | 5 => ⟨[2, 3, 4, 7, 9, 11], [2, 3, 4, 9], [], [], [2, 3, 4, 9]⟩
  | 6 => ⟨[2, 3, 4, 7, 9, 11, 36], [2, 3, 4, 9], [], [], [2, 3, 4, 9]⟩
  | 7 => ⟨[4, 5, 6], [4], [], [], [4]⟩
  | 8 => ⟨[2, 3, 4, 7, 9, 11, 12], [2, 3, 4, 9], [], [], [2, 3, 4, 9]⟩
  | 9 => ⟨[2, 3, 4, 7, 9, 11, 12], [2, 3, 4, 9, 46], [], [.ren 46 366], [2, 3, 4, 9, 46, 366]⟩
  | 10 => ⟨[2, 4, 7, 9, 12], [2, 4, 9, 366], [], [], [2, 4, 9, 366]⟩
  | 11 => ⟨[4, 12, 13, 14], [4, 13], [], [], [4, 13]⟩
  | 12 => ⟨[4, 5, 6], [4], [], [], [4]⟩
  | _ => ⟨[], [], [], [], []⟩
noncomputable abbrev agL : Cx := ⟨Tryd.prog, ⟨id, aeC, aeW⟩, aeV⟩
theorem ahp {args : List PV} {r : PV} (ha : args.length = 2) (h : awp agL agD (zS Tryd.prog [.cell 4 28, .tmp 5, .tmp 6] r []) (zR args [])) : PC Tryd.prog 46 args r :=
  zL (X := agL) mixed Tryd.func46 (c := agD) (by kernel_rfl) (by kernel_rfl) (rs := [.cell 4 28, .tmp 5, .tmp 6]) (by kernel_rfl) (by kernel_rfl) (by rw [ha]; decide) h
noncomputable def QI : Code := (Tryd.f113.body).getD .skip
def Qp : List (Nat × Nf) := []
def QA : List (Nat × List Nat) := []
def Qy : Nat → Ann
  | 0 => ⟨[0, 1, 2, 6], [1000, 1001], [], [], [1000, 1001]⟩
  | 1 => ⟨[0, 1, 2, 6, 35], [1000, 1001], [], [], [1000, 1001]⟩
  | 2 => ⟨[], [1000, 1001], [], [], [1000, 1001]⟩
  | 3 => ⟨[], [1000, 1001], [], [], [1000, 1001]⟩
  | _ => ⟨[], [], [], [], []⟩
noncomputable abbrev QH : Cx := ⟨Tryd.prog, ⟨id, Qp, QA⟩, Qy⟩
theorem Vq {args : List PV} {es es' : List Ent} {r : PV} (ha : args.length = 3) (hl : es'.length = es.length) (he : (es'.all fun e => e.wG es.length) = true) (h : awp QH QI (zS Tryd.prog [] r es') (zR args es)) : BC Tryd.prog 113 args es r es' :=
  xP (X := QH) mixed Tryd.func113 (c := QI) (by kernel_rfl) (by kernel_rfl) (rs := []) (by kernel_rfl) (by kernel_rfl) (by rw [ha]; decide) hl (fun e h => List.all_eq_true.1 he e h) h
noncomputable def ZK : Code := (Tryd.f114.body).getD .skip
def y9 : List (Nat × Nf) := []
def Zt : List (Nat × List Nat) := []
def Zp : Nat → Ann
  | 0 => ⟨[0, 1, 2, 3, 4, 8], [8, 1000, 1001], [.nrm 8 [none, none, some 1, some 2, some 5]], [], [8, 1000, 1001]⟩
  | 1 => ⟨[8], [8, 1000, 1001], [.nrm 8 [none, none, none, some 2, some 5]], [], [8, 1000, 1001]⟩
  | _ => ⟨[], [], [], [], []⟩
noncomputable abbrev ZU : Cx := ⟨Tryd.prog, ⟨id, y9, Zt⟩, Zp⟩
theorem Kt {args : List PV} {es es' : List Ent} {r : PV} (ha : args.length = 5) (hl : es'.length = es.length) (he : (es'.all fun e => e.wG es.length) = true) (h : awp ZU ZK (zS Tryd.prog [.cell 8 28] r es') (zR args es)) : BC Tryd.prog 114 args es r es' :=
  xP (X := ZU) mixed Tryd.func114 (c := ZK) (by kernel_rfl) (by kernel_rfl) (rs := [.cell 8 28]) (by kernel_rfl) (by kernel_rfl) (by rw [ha]; decide) hl (fun e h => List.all_eq_true.1 he e h) h
noncomputable def QM : Code := (Tryd.f101.body).getD .skip
def Qn : List (Nat × Nf) := []
def Qm : List (Nat × List Nat) := [(69, [4]), (70, [4]), (71, [4, 7, 999999]), (76, [4, 7, 999999]), (79, [7]), (81, [4]), (82, [4]), (83, [4, 7, 999999])]
def Qu : Nat → Ann
  | 0 => ⟨[0, 2, 4], [4, 1000, 1001], [], [], [4, 1000, 1001]⟩
  | 1 => ⟨[0, 2, 4, 7], [4, 7, 1000, 1001], [], [], [4, 7, 1000, 1001]⟩
  | 2 => ⟨[0, 2, 4, 7, 8], [4, 7, 1000, 1001], [], [], [4, 7, 1000, 1001]⟩
  | 3 => ⟨[0, 2, 4, 7, 8, 9], [4, 7, 1000, 1001], [], [], [4, 7, 1000, 1001]⟩
  | 4 => ⟨[0, 2, 4, 7, 8, 9, 10, 11], [4, 7, 1000, 1001], [], [], [4, 7, 1000, 1001]⟩
  | 5 => ⟨[0, 2, 4, 7, 8, 9, 10, 55], [4, 7, 1000, 1001], [], [], [4, 7, 1000, 1001]⟩
  | 6 => ⟨[6], [57, 1000, 1001], [], [.ren 57 6], [6, 57, 1000, 1001]⟩
  | 7 => ⟨[4, 7, 8, 9, 10], [4, 7, 1000, 1001], [], [], [4, 7, 1000, 1001]⟩
  | 8 => ⟨[4, 7, 8, 9, 10, 12], [4, 7, 1000, 1001], [], [], [4, 7, 1000, 1001]⟩
  | 9 => ⟨[6], [84, 1000, 1001], [], [.ren 84 6], [6, 84, 1000, 1001]⟩
  | _ => ⟨[], [], [], [], []⟩
noncomputable abbrev QK : Cx := ⟨Tryd.prog, ⟨id, Qn, Qm⟩, Qu⟩
theorem Vn {args : List PV} {es es' : List Ent} {r : PV} (ha : args.length = 3) (hl : es'.length = es.length) (he : (es'.all fun e => e.wG es.length) = true) (h : awp QK QM (zS Tryd.prog [.tmp 6] r es') (zR args es)) : BC Tryd.prog 101 args es r es' :=
  xP (X := QK) mixed Tryd.func101 (c := QM) (by kernel_rfl) (by kernel_rfl) (rs := [.tmp 6]) (by kernel_rfl) (by kernel_rfl) (by rw [ha]; decide) hl (fun e h => List.all_eq_true.1 he e h) h
noncomputable def aem : Code := (Tryd.f82.body).getD .skip
def aci : List (Nat × Nf) := []
def ab8 : List (Nat × List Nat) := []
def acb : Nat → Ann
  | 0 => ⟨[0], [], [], [], []⟩
  | 1 => ⟨[0, 3], [3], [.thaw 3 3 5], [], [3]⟩
  | 2 => ⟨[3, 7, 8, 9], [3], [], [], [3]⟩
  | 3 => ⟨[3, 7, 8, 9, 10], [3], [], [], [3]⟩
  | 4 => ⟨[3, 5, 7, 8, 9], [3, 5], [], [], [3, 5]⟩
  | 5 => ⟨[3, 5, 6, 7, 8, 9], [3, 5], [], [], [3, 5]⟩
  | 6 => ⟨[3, 7, 8, 9], [3], [], [], [3]⟩
  | 7 => ⟨[3, 5, 6, 7, 8, 9, 20], [3, 5], [], [], [3, 5]⟩
  | 8 => ⟨[3, 5, 6, 7, 8, 9, 28], [3, 5], [], [], [3, 5]⟩
  | 9 => ⟨[3, 5, 6, 7, 8, 9], [3, 5], [], [], [3, 5]⟩
  | 10 => ⟨[3, 7, 8, 9], [3], [], [], [3]⟩
  | 11 => ⟨[3, 7, 8, 9], [3], [], [], [3]⟩
  | 12 => ⟨[2], [3], [], [.ren 3 2], [2, 3]⟩
  | _ => ⟨[], [], [], [], []⟩
noncomputable abbrev aeD : Cx := ⟨Tryd.prog, ⟨id, aci, ab8⟩, acb⟩
theorem afb {args : List PV} {r : PV} (ha : args.length = 1) (h : awp aeD aem (zS Tryd.prog [.tmp 2] r []) (zR args [])) : PC Tryd.prog 82 args r :=
  zL (X := aeD) mixed Tryd.func82 (c := aem) (by kernel_rfl) (by kernel_rfl) (rs := [.tmp 2]) (by kernel_rfl) (by kernel_rfl) (by rw [ha]; decide) h
noncomputable def QL : Code := (Tryd.f79.body).getD .skip
def Qv : List (Nat × Nf) := []
def Qe : List (Nat × List Nat) := []
def Ql : Nat → Ann
  | 0 => ⟨[0, 1, 2], [1000, 1001], [], [], [1000, 1001]⟩
  | 1 => ⟨[0, 1, 2, 7], [7, 1000, 1001], [.thaw 7 7 5], [], [7, 1000, 1001]⟩
  | 2 => ⟨[0, 2, 7, 11, 12, 13], [7, 1000, 1001], [], [], [7, 1000, 1001]⟩
  | 3 => ⟨[0, 2, 7, 11, 12, 13, 14], [7, 1000, 1001], [], [], [7, 1000, 1001]⟩
  | 4 => ⟨[0, 2, 7, 9, 11, 12, 13], [7, 9, 1000, 1001], [], [], [7, 9, 1000, 1001]⟩
  | 5 => ⟨[0, 2, 7, 9, 10, 11, 12, 13], [7, 9, 1000, 1001], [], [], [7, 9, 1000, 1001]⟩
  | 6 => ⟨[0, 2, 7, 9, 10, 11, 12, 13, 21], [7, 9, 1000, 1001], [], [], [7, 9, 1000, 1001]⟩
  | 7 => ⟨[0, 2, 7, 10, 11, 12, 13], [7, 1000, 1001], [], [], [7, 1000, 1001]⟩
  | 8 => ⟨[0, 2, 7, 9, 10, 11, 12, 13], [7, 9, 1000, 1001], [], [], [7, 9, 1000, 1001]⟩
  | 9 => ⟨[0, 2, 7, 10, 11, 12, 13], [7, 1000, 1001], [], [], [7, 1000, 1001]⟩
  | 10 => ⟨[0, 2, 7, 11, 12, 13], [7, 1000, 1001], [], [], [7, 1000, 1001]⟩
  | 11 => ⟨[0, 2, 7, 11, 12, 13], [7, 1000, 1001], [], [], [7, 1000, 1001]⟩
  | 12 => ⟨[6], [1000, 1001], [], [], [1000, 1001]⟩
  | _ => ⟨[], [], [], [], []⟩
noncomputable abbrev QP : Cx := ⟨Tryd.prog, ⟨id, Qv, Qe⟩, Ql⟩
theorem Vm {args : List PV} {es es' : List Ent} {r : PV} (ha : args.length = 3) (hl : es'.length = es.length) (he : (es'.all fun e => e.wG es.length) = true) (h : awp QP QL (zS Tryd.prog [.tmp 6] r es') (zR args es)) : BC Tryd.prog 79 args es r es' :=
  xP (X := QP) mixed Tryd.func79 (c := QL) (by kernel_rfl) (by kernel_rfl) (rs := [.tmp 6]) (by kernel_rfl) (by kernel_rfl) (by rw [ha]; decide) hl (fun e h => List.all_eq_true.1 he e h) h
noncomputable def abK : Code := (Tryd.f47.body).getD .skip
def aam : List (Nat × Nf) := [(14, [none, none, some 1, some 2, some 5])]
def aaG : List (Nat × List Nat) := [(23, [2]), (25, [17]), (26, [17]), (27, [17]), (500004, [4])]
def aaT : Nat → Ann
  | 0 => ⟨[2, 3, 4], [2, 3, 4], [.nrm 4 [none, none, some 1, some 2, some 5]], [], [2, 3, 4]⟩
  | 1 => ⟨[2, 3, 4, 13], [2, 3, 4], [], [], [2, 3, 4]⟩
  | 2 => ⟨[4, 5, 6], [4], [.nrm 5 [some 3]], [], [4]⟩
  | 3 => ⟨[2, 4, 7], [2, 4, 17, 425], [.Vz 17 6 425 3], [], [2, 4, 17, 425]⟩
  | 4 => ⟨[2, 4, 7], [2, 4, 17, 425], [], [], [2, 4, 17, 425]⟩
  | 5 => ⟨[4, 5, 6], [4, 425], [], [.ren 425 5], [4, 5, 425]⟩
  | _ => ⟨[], [], [], [], []⟩
noncomputable abbrev ach : Cx := ⟨Tryd.prog, ⟨id, aam, aaG⟩, aaT⟩
theorem ad8 {args : List PV} {r : PV} (ha : args.length = 2) (h : awp ach abK (zS Tryd.prog [.cell 4 28, .tmp 5, .tmp 6] r []) (zR args [])) : PC Tryd.prog 47 args r :=
  zL (X := ach) mixed Tryd.func47 (c := abK) (by kernel_rfl) (by kernel_rfl) (rs := [.cell 4 28, .tmp 5, .tmp 6]) (by kernel_rfl) (by kernel_rfl) (by rw [ha]; decide) h
noncomputable def abX : Code := (Tryd.f48.body).getD .skip
def abd : List (Nat × Nf) := [(26, [none, none, some 1, some 2, none])]
def aa3 : List (Nat × List Nat) := []
def aaI : Nat → Ann
  | 0 => ⟨[1], [1], [], [], [1]⟩
  | 1 => ⟨[1, 3], [1], [], [], [1]⟩
  | 2 => ⟨[1, 3, 21], [1], [], [], [1]⟩
  | 3 => ⟨[1, 3, 21, 22], [1], [], [], [1]⟩
  | 4 => ⟨[1, 3, 4], [1], [], [], [1]⟩
  | 5 => ⟨[2], [], [], [], []⟩
  | 6 => ⟨[1, 3, 21, 41], [1], [], [], [1]⟩
  | 7 => ⟨[2], [], [], [], []⟩
  | 8 => ⟨[1, 3, 21, 72], [1], [], [], [1]⟩
  | 9 => ⟨[1, 3, 72], [1], [], [], [1]⟩
  | 10 => ⟨[2], [], [], [], []⟩
  | 11 => ⟨[2], [], [], [], []⟩
  | _ => ⟨[], [], [], [], []⟩
noncomputable abbrev acZ : Cx := ⟨Tryd.prog, ⟨id, abd, aa3⟩, aaI⟩
theorem adP {args : List PV} {r : PV} (ha : args.length = 1) (h : awp acZ abX (zS Tryd.prog [.tmp 2] r []) (zR args [])) : PC Tryd.prog 48 args r :=
  zL (X := acZ) mixed Tryd.func48 (c := abX) (by kernel_rfl) (by kernel_rfl) (rs := [.tmp 2]) (by kernel_rfl) (by kernel_rfl) (by rw [ha]; decide) h
noncomputable def VH : Code := (Tryd.f96.body).getD .skip
def Vl : List (Nat × Nf) := [(4, [some 1, none, none, some 1, some 2, some 5, none, none])]
def Vj : List (Nat × List Nat) := []
def K4 : Nat → Ann
  | 0 => ⟨[1, 3], [1000, 1001], [], [], [1000, 1001]⟩
  | 1 => ⟨[], [1000, 1001], [], [], [1000, 1001]⟩
  | _ => ⟨[], [], [], [], []⟩
noncomputable abbrev VD : Cx := ⟨Tryd.prog, ⟨id, Vl, Vj⟩, K4⟩
theorem Xv {args : List PV} {es es' : List Ent} {r : PV} (ha : args.length = 2) (hl : es'.length = es.length) (he : (es'.all fun e => e.wG es.length) = true) (h : awp VD VH (zS Tryd.prog [] r es') (zR args es)) : BD Tryd.prog 96 args es r es' :=
  apy (X := VD) mixed Tryd.func96 (c := VH) (by kernel_rfl) (rs := []) (by kernel_rfl) (by kernel_rfl) (by rw [ha]; decide) hl (fun e h => List.all_eq_true.1 he e h) h
noncomputable def KO : Code := (Tryd.f98.body).getD .skip
def WR : List (Nat × Nf) := []
def Ka : List (Nat × List Nat) := []
def Kl : Nat → Ann
  | 0 => ⟨[0, 1], [], [], [], []⟩
  | 1 => ⟨[0, 1, 10], [], [], [], []⟩
  | 2 => ⟨[4], [], [], [], []⟩
  | 3 => ⟨[0, 1, 12, 13], [], [], [], []⟩
  | 4 => ⟨[0, 1, 12, 13, 14], [], [], [], []⟩
  | 5 => ⟨[0, 1, 5, 12, 13], [], [], [], []⟩
  | 6 => ⟨[0, 1, 12, 13, 24], [], [], [], []⟩
  | 7 => ⟨[4], [], [], [], []⟩
  | 8 => ⟨[0, 1, 12, 13], [], [], [], []⟩
  | 9 => ⟨[4], [], [], [], []⟩
  | _ => ⟨[], [], [], [], []⟩
noncomputable abbrev K3 : Cx := ⟨Tryd.prog, ⟨id, WR, Ka⟩, Kl⟩
theorem J9 {args : List PV} {r : PV} (ha : args.length = 2) (h : awp K3 KO (zS Tryd.prog [.tmp 4] r []) (zR args [])) : PC Tryd.prog 98 args r :=
  zL (X := K3) mixed Tryd.func98 (c := KO) (by kernel_rfl) (by kernel_rfl) (rs := [.tmp 4]) (by kernel_rfl) (by kernel_rfl) (by rw [ha]; decide) h
noncomputable def aaX : Code := (Tryd.f99.body).getD .skip
def YH : List (Nat × Nf) := []
def YE : List (Nat × List Nat) := []
def XN : Nat → Ann
  | 0 => ⟨[1, 2], [2], [], [], [2]⟩
  | 1 => ⟨[1, 2, 7], [2], [], [], [2]⟩
  | 2 => ⟨[1, 2, 7, 18], [2], [], [], [2]⟩
  | 3 => ⟨[4, 5], [], [], [], []⟩
  | 4 => ⟨[1, 2, 8], [2], [], [], [2]⟩
  | 5 => ⟨[2, 8, 20, 21, 22], [2], [], [], [2]⟩
  | 6 => ⟨[2, 8, 20, 21, 22, 23], [2], [], [], [2]⟩
  | 7 => ⟨[2, 8, 10, 20, 21, 22], [2], [], [], [2]⟩
  | 8 => ⟨[2, 8, 10, 20, 21, 22], [2], [], [], [2]⟩
  | 9 => ⟨[2, 8, 20, 21, 22], [2], [], [], [2]⟩
  | 10 => ⟨[2, 8, 20, 21, 22], [2], [], [], [2]⟩
  | 11 => ⟨[4, 5], [], [], [], []⟩
  | _ => ⟨[], [], [], [], []⟩
noncomputable abbrev abb : Cx := ⟨Tryd.prog, ⟨id, YH, YE⟩, XN⟩
theorem ab9 {args : List PV} {r : PV} (ha : args.length = 2) (h : awp abb aaX (zS Tryd.prog [.tmp 4, .tmp 5] r []) (zR args [])) : PC Tryd.prog 99 args r :=
  zL (X := abb) mixed Tryd.func99 (c := aaX) (by kernel_rfl) (by kernel_rfl) (rs := [.tmp 4, .tmp 5]) (by kernel_rfl) (by kernel_rfl) (by rw [ha]; decide) h
def XG : List (Nat × Nf) := []
def XZ : List (Nat × List Nat) := [(31, [1001]), (32, [1000]), (42, [1001]), (43, [1000]), (71, [8]), (72, [8]), (73, [12]), (81, [1000]), (500006, [1001]), (500007, [1000])]
def XP : Nat → Ann
  | 0 => ⟨[1, 2, 3, 6, 7], [3, 6, 7], [.nrm 6 [some 1, none, none, some 1, some 2, some 5, none, none]], [], [3, 6, 7]⟩
  | 1 => ⟨[1, 2, 3, 6, 7], [], [], [], []⟩
  | 2 => ⟨[1, 2, 3, 6, 7, 21], [3, 1000, 1001], [], [], [3, 1000, 1001]⟩
  | 3 => ⟨[6, 7], [1000, 1001], [], [], [1000, 1001]⟩
  | 4 => ⟨[1, 2, 3, 6, 7, 8], [3, 8, 1000, 1001], [], [], [3, 8, 1000, 1001]⟩
  | 5 => ⟨[1, 2, 3, 6, 7, 8, 30], [3, 8, 1000, 1001], [], [], [3, 8, 1000, 1001]⟩
  | 6 => ⟨[6, 7], [1000, 1001], [], [], [1000, 1001]⟩
  | 7 => ⟨[1, 2, 3, 6, 7, 8, 9], [3, 8, 9, 1000, 1001], [], [], [3, 8, 9, 1000, 1001]⟩
  | 8 => ⟨[1, 2, 3, 6, 7, 8, 9, 39], [3, 8, 9, 1000, 1001], [], [], [3, 8, 9, 1000, 1001]⟩
  | 9 => ⟨[6, 7], [1000, 1001], [], [], [1000, 1001]⟩
  | 10 => ⟨[1, 2, 3, 6, 7, 8, 9, 44], [3, 8, 9, 1000, 1001], [], [], [3, 8, 9, 1000, 1001]⟩
  | 11 => ⟨[6, 7], [1000, 1001], [], [], [1000, 1001]⟩
  | 12 => ⟨[1, 2, 3, 6, 7, 8, 49], [3, 8, 1000, 1001], [], [], [3, 8, 1000, 1001]⟩
  | 13 => ⟨[6, 7], [1000, 1001], [], [], [1000, 1001]⟩
  | 14 => ⟨[1, 2, 3, 6, 7, 8, 10], [3, 8, 1000, 1001], [], [], [3, 8, 1000, 1001]⟩
  | 15 => ⟨[1, 2, 6, 7, 8, 10, 12], [8, 12, 1000, 1001], [], [], [8, 12, 1000, 1001]⟩
  | 16 => ⟨[6, 7], [1000, 1001], [], [], [1000, 1001]⟩
  | _ => ⟨[], [], [], [], []⟩
noncomputable abbrev V5 : Cx := ⟨Tryd.prog, ⟨id, XG, XZ⟩, XP⟩
noncomputable def Yf : Code := match Tryd.f72.body with | some (.seq c _) => c | _ => .skip
noncomputable def XV : Code := match Tryd.f72.body with | some (.seq _ (.seq _ c)) => c | _ => .skip
noncomputable def ahy : Oper := match Tryd.f72.body with | some (.seq _ (.seq (.region _ ops _) _)) => (ops[0]?).getD ⟨none, .move (.tmp 0), 0, "", #[], none⟩ | _ => ⟨none, .move (.tmp 0), 0, "", #[], none⟩
noncomputable def af0 : Oper := match Tryd.f72.body with | some (.seq _ (.seq (.region _ ops _) _)) => (ops[1]?).getD ⟨none, .move (.tmp 0), 0, "", #[], none⟩ | _ => ⟨none, .move (.tmp 0), 0, "", #[], none⟩
theorem aca {args : List PV} {r : PV} (ha : args.length = 3) (h : awp V5 Yf (midD V5 96 13 7 6 XV [.cell 6 123, .cell 7 31] r) (zR args [])) : PC Tryd.prog 72 args r :=
  amz (X := V5) (id := 1) (o1 := ahy) (o2 := af0) (c0 := Yf) (c1 := XV) mixed Tryd.func72 (by kernel_rfl) ⟨by rfl, by rfl, by rfl⟩ ⟨⟨_, by rfl⟩, by rfl, by rfl⟩ (by kernel_rfl) ⟨_, Tryd.func96, by kernel_rfl, by kernel_rfl⟩ (rs := [.cell 6 123, .cell 7 31]) (by kernel_rfl) (by kernel_rfl) (by kernel_rfl) (by rw [ha]; decide) (by decide) h
noncomputable def aaH : Code := (Tryd.f73.body).getD .skip
def XX : List (Nat × Nf) := []
def Ya : List (Nat × List Nat) := [(44, []), (45, []), (48, []), (49, []), (75, []), (76, []), (79, []), (80, []), (81, [11]), (82, [9]), (83, [9]), (500081, [11]), (500083, [9])]
def Yv : Nat → Ann
  | 0 => ⟨[0, 1], [], [], [], []⟩
  | 1 => ⟨[0, 1, 19], [], [], [], []⟩
  | 2 => ⟨[4, 5, 6], [], [.nrm 4 [some 5], .nrm 5 [some 5]], [], []⟩
  | 3 => ⟨[0, 1, 7], [], [], [], []⟩
  | 4 => ⟨[0, 1, 7, 32], [], [], [], []⟩
  | 5 => ⟨[0, 1, 7], [], [], [], []⟩
  | 6 => ⟨[0, 1, 7], [], [], [], []⟩
  | 7 => ⟨[0, 1, 7, 8, 9], [45, 49], [], [.ren 45 8, .ren 49 9], [8, 9, 45, 49]⟩
  | 8 => ⟨[0, 1, 7, 8, 9, 50], [8, 9], [], [], [8, 9]⟩
  | 9 => ⟨[4, 5, 6], [8, 9], [], [.ren 8 4, .ren 9 5], [4, 5, 8, 9]⟩
  | 10 => ⟨[0, 1, 7, 8, 9, 55], [8, 9], [], [], [8, 9]⟩
  | 11 => ⟨[4, 5, 6], [], [.nrm 4 [some 5], .nrm 5 [some 5]], [], []⟩
  | 12 => ⟨[0, 1, 7, 8, 9, 10], [8, 9], [], [], [8, 9]⟩
  | 13 => ⟨[1, 8, 9, 10, 11], [8, 9, 11], [], [], [8, 9, 11]⟩
  | 14 => ⟨[8, 9, 11], [8, 9, 11], [], [], [8, 9, 11]⟩
  | 15 => ⟨[4, 5, 6], [8, 9], [], [.ren 8 4, .ren 9 5], [4, 5, 8, 9]⟩
  | _ => ⟨[], [], [], [], []⟩
noncomputable abbrev aa0 : Cx := ⟨Tryd.prog, ⟨id, XX, Ya⟩, Yv⟩
theorem acX {args : List PV} {r : PV} (ha : args.length = 2) (h : awp aa0 aaH (zS Tryd.prog [.tmp 4, .tmp 5, .tmp 6] r []) (zR args [])) : PC Tryd.prog 73 args r :=
  zL (X := aa0) mixed Tryd.func73 (c := aaH) (by kernel_rfl) (by kernel_rfl) (rs := [.tmp 4, .tmp 5, .tmp 6]) (by kernel_rfl) (by kernel_rfl) (by rw [ha]; decide) h
noncomputable def Zw : Code := (Tryd.f83.body).getD .skip
def yX : List (Nat × Nf) := []
def yU : List (Nat × List Nat) := []
def yT : Nat → Ann
  | 0 => ⟨[0], [], [], [], []⟩
  | 1 => ⟨[0, 3], [], [], [], []⟩
  | 2 => ⟨[0, 3, 9, 10, 11], [], [], [], []⟩
  | 3 => ⟨[0, 3, 9, 10, 11, 12], [], [], [], []⟩
  | 4 => ⟨[0, 3, 5, 9, 10, 11], [], [], [], []⟩
  | 5 => ⟨[0, 3, 9, 10, 11], [], [], [], []⟩
  | 6 => ⟨[0, 3, 9, 10, 11, 20], [], [], [], []⟩
  | 7 => ⟨[0, 3, 9, 10, 11], [], [], [], []⟩
  | 8 => ⟨[0, 3, 9, 10, 11], [], [], [], []⟩
  | 9 => ⟨[0, 6], [24], [], [.ren 24 6], [6, 24]⟩
  | 10 => ⟨[6, 25, 26, 27], [6], [], [], [6]⟩
  | 11 => ⟨[6, 25, 26, 27, 28], [6], [], [], [6]⟩
  | 12 => ⟨[6, 8, 25, 26, 27], [6], [], [], [6]⟩
  | 13 => ⟨[6, 25, 26, 27], [6], [], [], [6]⟩
  | 14 => ⟨[6, 25, 26, 27], [6], [], [], [6]⟩
  | 15 => ⟨[2], [6], [], [.ren 6 2], [2, 6]⟩
  | _ => ⟨[], [], [], [], []⟩
noncomputable abbrev Zi : Cx := ⟨Tryd.prog, ⟨id, yX, yU⟩, yT⟩
theorem WN {args : List PV} {r : PV} (ha : args.length = 1) (h : awp Zi Zw (zS Tryd.prog [.tmp 2] r []) (zR args [])) : PC Tryd.prog 83 args r :=
  zL (X := Zi) mixed Tryd.func83 (c := Zw) (by kernel_rfl) (by kernel_rfl) (rs := [.tmp 2]) (by kernel_rfl) (by kernel_rfl) (by rw [ha]; decide) h
noncomputable def aeK : Code := (Tryd.f49.body).getD .skip
def acG : List (Nat × Nf) := [(33, [none, none, some 1, some 2, none]), (37, [none, none, some 1, some 2, some 5]), (40, [none, none, some 1, some 2, some 5]), (83, [none, none, some 1, some 2, some 5])]
def abR : List (Nat × List Nat) := []
def acv : Nat → Ann
  | 0 => ⟨[1, 2, 3, 4, 8], [4, 8], [.nrm 8 [none, none, some 1, some 2, some 5]], [], [4, 8]⟩
  | 1 => ⟨[3, 4, 8, 10, 11], [4, 8, 10], [], [], [4, 8, 10]⟩
  | 2 => ⟨[3, 4, 8, 10, 11, 36], [4, 8, 10], [], [], [4, 8, 10]⟩
  | 3 => ⟨[8, 9], [8], [], [], [8]⟩
  | 4 => ⟨[3, 4, 8, 10, 11, 39], [4, 8, 10], [], [], [4, 8, 10]⟩
  | 5 => ⟨[8, 9], [8], [], [], [8]⟩
  | 6 => ⟨[3, 4, 8, 10, 12], [4, 8, 10], [], [], [4, 8, 10]⟩
  | 7 => ⟨[3, 4, 8, 10, 12, 16], [4, 8, 10], [], [], [4, 8, 10]⟩
  | 8 => ⟨[4, 8, 10], [4, 8, 10], [], [], [4, 8, 10]⟩
  | 9 => ⟨[8, 18], [8, 18], [], [], [8, 18]⟩
  | 10 => ⟨[8, 18, 20], [8, 18], [], [], [8, 18]⟩
  | 11 => ⟨[8, 18, 20, 82], [8, 18], [], [], [8, 18]⟩
  | 12 => ⟨[8, 9], [8], [], [], [8]⟩
  | 13 => ⟨[8, 9], [8], [], [], [8]⟩
  | _ => ⟨[], [], [], [], []⟩
noncomputable abbrev aeT : Cx := ⟨Tryd.prog, ⟨id, acG, abR⟩, acv⟩
theorem ae1 {args : List PV} {r : PV} (ha : args.length = 4) (h : awp aeT aeK (zS Tryd.prog [.cell 8 28, .tmp 9] r []) (zR args [])) : PC Tryd.prog 49 args r :=
  zL (X := aeT) mixed Tryd.func49 (c := aeK) (by kernel_rfl) (by kernel_rfl) (rs := [.cell 8 28, .tmp 9]) (by kernel_rfl) (by kernel_rfl) (by rw [ha]; decide) h
noncomputable def acW : Code := (Tryd.f17.body).getD .skip
def aaY : List (Nat × Nf) := [(16, [none, none, some 1, some 2, some 5]), (26, [none, none, some 1, some 2, some 5])]
def aac : List (Nat × List Nat) := []
def aa1 : Nat → Ann
  | 0 => ⟨[2, 3, 4], [2, 3, 4], [.nrm 4 [none, none, some 1, some 2, some 5]], [], [2, 3, 4]⟩
  | 1 => ⟨[2, 3, 4, 12], [2, 3, 4], [], [], [2, 3, 4]⟩
  | 2 => ⟨[4, 5], [4], [], [], [4]⟩
  | 3 => ⟨[2, 3, 4, 17], [2, 3, 4], [], [], [2, 3, 4]⟩
  | 4 => ⟨[4, 5], [4], [], [], [4]⟩
  | 5 => ⟨[2, 3, 4, 27], [2, 3, 4], [], [], [2, 3, 4]⟩
  | 6 => ⟨[4, 5], [4], [], [], [4]⟩
  | 7 => ⟨[2, 3, 4, 41], [2, 3, 4], [], [], [2, 3, 4]⟩
  | 8 => ⟨[4, 6, 8], [4, 6], [], [], [4, 6]⟩
  | 9 => ⟨[4, 5], [4], [], [], [4]⟩
  | 10 => ⟨[4, 9, 11], [4, 9], [], [], [4, 9]⟩
  | 11 => ⟨[4, 5], [4], [], [], [4]⟩
  | _ => ⟨[], [], [], [], []⟩
noncomputable abbrev abZ : Cx := ⟨Tryd.prog, ⟨id, aaY, aac⟩, aa1⟩
theorem adt {args : List PV} {r : PV} (ha : args.length = 2) (h : awp abZ acW (zS Tryd.prog [.cell 4 28, .tmp 5] r []) (zR args [])) : PC Tryd.prog 17 args r :=
  zL (X := abZ) mixed Tryd.func17 (c := acW) (by kernel_rfl) (by kernel_rfl) (rs := [.cell 4 28, .tmp 5]) (by kernel_rfl) (by kernel_rfl) (by rw [ha]; decide) h
noncomputable def ahe : Code := (Tryd.f14.body).getD .skip
def aeA : List (Nat × Nf) := [(23, [none, none, some 1, some 2, some 5])]
def aeo : List (Nat × List Nat) := []
def aeI : Nat → Ann
  | 0 => ⟨[1, 2, 4], [2, 4], [.nrm 4 [none, none, some 1, some 2, some 5]], [], [2, 4]⟩
  | 1 => ⟨[1, 2, 4], [2, 4], [], [], [2, 4]⟩
  | 2 => ⟨[2, 4, 9, 10, 11], [2, 4], [], [], [2, 4]⟩
  | 3 => ⟨[2, 4, 9, 10, 11, 12], [2, 4], [], [], [2, 4]⟩
  | 4 => ⟨[2, 4, 8, 9, 10, 11], [2, 4, 8], [], [], [2, 4, 8]⟩
  | 5 => ⟨[2, 4, 6, 9, 10, 11], [2, 4], [], [], [2, 4]⟩
  | 6 => ⟨[2, 4, 6, 9, 10, 11, 22], [2, 4], [], [], [2, 4]⟩
  | 7 => ⟨[4, 5], [4], [], [], [4]⟩
  | 8 => ⟨[2, 4, 9, 10, 11], [2, 4], [], [], [2, 4]⟩
  | 9 => ⟨[4, 5], [4], [], [], [4]⟩
  | _ => ⟨[], [], [], [], []⟩
noncomputable abbrev afR : Cx := ⟨Tryd.prog, ⟨id, aeA, aeo⟩, aeI⟩
theorem ahC {args : List PV} {r : PV} (ha : args.length = 2) (h : awp afR ahe (zS Tryd.prog [.cell 4 28, .tmp 5] r []) (zR args [])) : PC Tryd.prog 14 args r :=
  zL (X := afR) mixed Tryd.func14 (c := ahe) (by kernel_rfl) (by kernel_rfl) (rs := [.cell 4 28, .tmp 5]) (by kernel_rfl) (by kernel_rfl) (by rw [ha]; decide) h
noncomputable def ZF : Code := (Tryd.f43.body).getD .skip
def Zv : List (Nat × Nf) := []
def Zh : List (Nat × List Nat) := []
def Zr : Nat → Ann
  | 0 => ⟨[0, 1], [], [], [], []⟩
  | 1 => ⟨[0, 1, 10], [], [], [], []⟩
  | 2 => ⟨[4], [], [], [], []⟩
  | 3 => ⟨[0, 1, 12, 13], [], [], [], []⟩
  | 4 => ⟨[0, 1, 12, 13, 14], [], [], [], []⟩
  | 5 => ⟨[0, 1, 5, 12, 13], [], [], [], []⟩
  | 6 => ⟨[0, 1, 12, 13, 24], [], [], [], []⟩
  | 7 => ⟨[4], [], [], [], []⟩
  | 8 => ⟨[0, 1, 12, 13], [], [], [], []⟩
  | 9 => ⟨[4], [], [], [], []⟩
  | _ => ⟨[], [], [], [], []⟩
noncomputable abbrev ZY : Cx := ⟨Tryd.prog, ⟨id, Zv, Zh⟩, Zr⟩
theorem KA {args : List PV} {r : PV} (ha : args.length = 2) (h : awp ZY ZF (zS Tryd.prog [.tmp 4] r []) (zR args [])) : PC Tryd.prog 43 args r :=
  zL (X := ZY) mixed Tryd.func43 (c := ZF) (by kernel_rfl) (by kernel_rfl) (rs := [.tmp 4]) (by kernel_rfl) (by kernel_rfl) (by rw [ha]; decide) h
noncomputable def vJ : Code := (Tryd.f44.body).getD .skip
def vk : List (Nat × Nf) := []
def vG : List (Nat × List Nat) := []
def vw : Nat → Ann
  | 0 => ⟨[0, 1, 2], [], [], [], []⟩
  | 1 => ⟨[0, 1, 2, 14], [], [], [], []⟩
  | 2 => ⟨[6], [], [], [], []⟩
  | 3 => ⟨[1, 2, 15, 16, 17], [], [], [], []⟩
  | 4 => ⟨[1, 2, 15, 16, 17, 18], [], [], [], []⟩
  | 5 => ⟨[1, 2, 7, 8, 15, 16, 17], [8], [], [], [8]⟩
  | 6 => ⟨[1, 2, 8, 9, 15, 16, 17], [8, 9], [], [], [8, 9]⟩
  | 7 => ⟨[1, 2, 15, 16, 17, 30], [], [], [], []⟩
  | 8 => ⟨[6], [], [], [], []⟩
  | 9 => ⟨[1, 2, 15, 16, 17], [], [], [], []⟩
  | 10 => ⟨[6], [], [], [], []⟩
  | _ => ⟨[], [], [], [], []⟩
noncomputable abbrev vI : Cx := ⟨Tryd.prog, ⟨id, vk, vG⟩, vw⟩
theorem xL {args : List PV} {r : PV} (ha : args.length = 3) (h : awp vI vJ (zS Tryd.prog [.tmp 6] r []) (zR args [])) : PC Tryd.prog 44 args r :=
  zL (X := vI) mixed Tryd.func44 (c := vJ) (by kernel_rfl) (by kernel_rfl) (rs := [.tmp 6]) (by kernel_rfl) (by kernel_rfl) (by rw [ha]; decide) h
noncomputable def aeF : Code := (Tryd.f15.body).getD .skip
def ado : List (Nat × Nf) := []
def ab1 : List (Nat × List Nat) := []
def acp : Nat → Ann
  | 0 => ⟨[2, 3], [2, 3], [], [], [2, 3]⟩
  | 1 => ⟨[4], [], [], [], []⟩
  | _ => ⟨[], [], [], [], []⟩
noncomputable abbrev aeX : Cx := ⟨Tryd.prog, ⟨id, ado, ab1⟩, acp⟩
theorem ae8 {args : List PV} {r : PV} (ha : args.length = 2) (h : awp aeX aeF (zS Tryd.prog [.tmp 4] r []) (zR args [])) : PC Tryd.prog 15 args r :=
  zL (X := aeX) mixed Tryd.func15 (c := aeF) (by kernel_rfl) (by kernel_rfl) (rs := [.tmp 4]) (by kernel_rfl) (by kernel_rfl) (by rw [ha]; decide) h
noncomputable def Wu : Code := (Tryd.f24.body).getD .skip
def QR : List (Nat × Nf) := [(4, [none, none, some 1, some 2, some 5]), (6, [none, none, some 1, some 2, some 5]), (8, [none, none, some 1, some 2, some 5]), (11, [none, none, none, some 5, none, none])]
def QN : List (Nat × List Nat) := []
def QJ : Nat → Ann
  | 0 => ⟨[], [], [], [], []⟩
  | 1 => ⟨[1], [1], [], [], [1]⟩
  | 2 => ⟨[2, 3], [2], [], [], [2]⟩
  | 3 => ⟨[0], [], [], [], []⟩
  | _ => ⟨[], [], [], [], []⟩
noncomputable abbrev Wy : Cx := ⟨Tryd.prog, ⟨id, QR, QN⟩, QJ⟩
theorem VU {args : List PV} {r : PV} (ha : args.length = 0) (h : awp Wy Wu (zS Tryd.prog [.tmp 0] r []) (zR args [])) : PC Tryd.prog 24 args r :=
  zL (X := Wy) mixed Tryd.func24 (c := Wu) (by kernel_rfl) (by kernel_rfl) (rs := [.tmp 0]) (by kernel_rfl) (by kernel_rfl) (by rw [ha]; decide) h
noncomputable def Kn : Code := (Tryd.f26.body).getD .skip
def WL : List (Nat × Nf) := []
def Wt : List (Nat × List Nat) := []
def WH : Nat → Ann
  | 0 => ⟨[0, 1], [], [], [], []⟩
  | 1 => ⟨[0, 1, 6], [], [], [], []⟩
  | 2 => ⟨[0, 1], [], [], [], []⟩
  | 3 => ⟨[4], [], [], [], []⟩
  | _ => ⟨[], [], [], [], []⟩
noncomputable abbrev Ke : Cx := ⟨Tryd.prog, ⟨id, WL, Wt⟩, WH⟩
theorem JB {args : List PV} {r : PV} (ha : args.length = 2) (h : awp Ke Kn (zS Tryd.prog [.tmp 4] r []) (zR args [])) : PC Tryd.prog 26 args r :=
  zL (X := Ke) mixed Tryd.func26 (c := Kn) (by kernel_rfl) (by kernel_rfl) (rs := [.tmp 4]) (by kernel_rfl) (by kernel_rfl) (by rw [ha]; decide) h
noncomputable def WS : Code := (Tryd.f38.body).getD .skip
def WC : List (Nat × Nf) := []
def WI : List (Nat × List Nat) := []
def Wv : Nat → Ann
  | 0 => ⟨[1], [1], [], [], [1]⟩
  | 1 => ⟨[1, 7], [1], [], [], [1]⟩
  | 2 => ⟨[2], [], [], [], []⟩
  | 3 => ⟨[1, 3], [1], [], [], [1]⟩
  | 4 => ⟨[1, 3, 4], [1], [], [], [1]⟩
  | 5 => ⟨[1, 3, 4, 12], [1], [], [], [1]⟩
  | 6 => ⟨[1, 3, 4], [1], [], [], [1]⟩
  | 7 => ⟨[1, 3, 4], [1], [], [], [1]⟩
  | 8 => ⟨[2], [], [], [], []⟩
  | _ => ⟨[], [], [], [], []⟩
noncomputable abbrev Kk : Cx := ⟨Tryd.prog, ⟨id, WC, WI⟩, Wv⟩
theorem Jn {args : List PV} {r : PV} (ha : args.length = 1) (h : awp Kk WS (zS Tryd.prog [.tmp 2] r []) (zR args [])) : PC Tryd.prog 38 args r :=
  zL (X := Kk) mixed Tryd.func38 (c := WS) (by kernel_rfl) (by kernel_rfl) (rs := [.tmp 2]) (by kernel_rfl) (by kernel_rfl) (by rw [ha]; decide) h
noncomputable def ZR : Code := (Tryd.f95.body).getD .skip
def Zj : List (Nat × Nf) := []
def Zg : List (Nat × List Nat) := []
def y7 : Nat → Ann
  | 0 => ⟨[0, 1], [], [], [], []⟩
  | 1 => ⟨[0, 1, 10], [], [], [], []⟩
  | 2 => ⟨[4], [], [], [], []⟩
  | 3 => ⟨[0, 1, 5], [], [], [], []⟩
  | 4 => ⟨[0, 1, 5, 14], [], [], [], []⟩
  | 5 => ⟨[0, 1, 5], [], [], [], []⟩
  | 6 => ⟨[0, 1, 5, 25], [], [], [], []⟩
  | 7 => ⟨[4], [], [], [], []⟩
  | 8 => ⟨[4], [], [], [], []⟩
  | _ => ⟨[], [], [], [], []⟩
noncomputable abbrev ZO : Cx := ⟨Tryd.prog, ⟨id, Zj, Zg⟩, y7⟩
theorem Ko {args : List PV} {r : PV} (ha : args.length = 2) (h : awp ZO ZR (zS Tryd.prog [.tmp 4] r []) (zR args [])) : PC Tryd.prog 95 args r :=
  zL (X := ZO) mixed Tryd.func95 (c := ZR) (by kernel_rfl) (by kernel_rfl) (rs := [.tmp 4]) (by kernel_rfl) (by kernel_rfl) (by rw [ha]; decide) h
noncomputable def KT : Code := (Tryd.f65.body).getD .skip
def WX : List (Nat × Nf) := []
def Kg : List (Nat × List Nat) := [(65, [3]), (66, [3, 62]), (67, [5]), (69, [62, 68])]
def WW : Nat → Ann
  | 0 => ⟨[0], [], [], [], []⟩
  | 1 => ⟨[0, 3], [3], [.thaw 3 3 5], [], [3]⟩
  | 2 => ⟨[0, 3, 4], [3], [], [], [3]⟩
  | 3 => ⟨[0, 3, 4, 10], [3], [], [], [3]⟩
  | 4 => ⟨[0, 3, 4], [3], [], [], [3]⟩
  | 5 => ⟨[0, 3, 4, 5], [3, 5], [], [], [3, 5]⟩
  | 6 => ⟨[0, 3, 4, 5, 6], [3, 5], [], [], [3, 5]⟩
  | 7 => ⟨[0, 3, 4, 5, 6, 27], [3, 5], [], [], [3, 5]⟩
  | 8 => ⟨[0, 3, 4, 5, 6, 52], [3, 5], [], [], [3, 5]⟩
  | 9 => ⟨[0, 3, 4, 5, 6], [3, 5], [], [], [3, 5]⟩
  | 10 => ⟨[0, 3, 4], [62], [], [.ren 62 3], [3, 62]⟩
  | 11 => ⟨[0, 3, 4], [3], [], [], [3]⟩
  | 12 => ⟨[2], [3], [], [.ren 3 2], [2, 3]⟩
  | _ => ⟨[], [], [], [], []⟩
noncomputable abbrev Vk : Cx := ⟨Tryd.prog, ⟨id, WX, Kg⟩, WW⟩
theorem JQ {args : List PV} {r : PV} (ha : args.length = 1) (h : awp Vk KT (zS Tryd.prog [.tmp 2] r []) (zR args [])) : PC Tryd.prog 65 args r :=
  zL (X := Vk) mixed Tryd.func65 (c := KT) (by kernel_rfl) (by kernel_rfl) (rs := [.tmp 2]) (by kernel_rfl) (by kernel_rfl) (by rw [ha]; decide) h
noncomputable def W9 : Code := (Tryd.f56.body).getD .skip
def Ww : List (Nat × Nf) := [(29, [none, none, some 1, some 2, none])]
def Wz : List (Nat × List Nat) := []
def Wx : Nat → Ann
  | 0 => ⟨[1, 2, 4], [2, 4], [.nrm 4 [none, none, some 1, some 2, some 5]], [], [2, 4]⟩
  | 1 => ⟨[1, 2, 4, 5], [2, 4, 8], [], [.ren 8 5], [2, 4, 5, 8]⟩
  | 2 => ⟨[1, 2, 4, 5, 6], [2, 4, 5, 9], [], [.ren 9 6], [2, 4, 5, 6, 9]⟩
  | 3 => ⟨[1, 4, 7], [4, 25], [], [.ren 25 7], [4, 7, 25]⟩
  | 4 => ⟨[4], [4], [], [], [4]⟩
  | _ => ⟨[], [], [], [], []⟩
noncomputable abbrev WZ : Cx := ⟨Tryd.prog, ⟨id, Ww, Wz⟩, Wx⟩
theorem JA {args : List PV} {r : PV} (ha : args.length = 2) (h : awp WZ W9 (zS Tryd.prog [.cell 4 28] r []) (zR args [])) : PC Tryd.prog 56 args r :=
  zL (X := WZ) mixed Tryd.func56 (c := W9) (by kernel_rfl) (by kernel_rfl) (rs := [.cell 4 28]) (by kernel_rfl) (by kernel_rfl) (by rw [ha]; decide) h
noncomputable def KX : Code := (Tryd.f25.body).getD .skip
def Kh : List (Nat × Nf) := [(14, [none, none, some 1, some 2, none]), (34, [none, none, none, some 2, some 5]), (62, [none, none, some 1, none, none]), (93, [none, none, some 1, some 2, none]), (171, [none, none, none, none, some 5]), (173, [none, none, some 1, some 2, some 5]), (177, [none, none, none, none, some 5])]
def Ki : List (Nat × List Nat) := [(115, [12]), (116, [12]), (117, [114]), (118, [11]), (120, [114, 119]), (121, [12]), (123, [4]), (124, [4]), (126, [332]), (127, [122, 332]), (128, [12]), (130, [122, 129]), (131, [4]), (152, [11]), (153, [11]), (154, [4]), (155, [4]), (157, [332]), (158, [332]), (160, [159, 381]), (161, [11]), (500121, [12, 114]), (500131, [4, 122])]
def Kj : Nat → Ann
  | 0 => ⟨[0, 2], [2], [.nrm 2 [none, none, some 1, some 2, some 5]], [], [2]⟩
  | 1 => ⟨[0, 2, 3], [2, 13], [], [.ren 13 3], [2, 3, 13]⟩
  | 2 => ⟨[0, 2, 3, 4], [2, 3, 4, 332], [.Vz 4 4 332 5], [], [2, 3, 4, 332]⟩
  | 3 => ⟨[0, 2, 3, 4, 5], [2, 3, 4, 5, 332], [.thaw 5 5 5], [], [2, 3, 4, 5, 332]⟩
  | 4 => ⟨[0, 2, 3, 4, 5, 6], [2, 3, 4, 5, 332], [], [], [2, 3, 4, 5, 332]⟩
  | 5 => ⟨[0, 2, 3, 4, 5, 6, 22], [2, 3, 4, 5, 332], [], [], [2, 3, 4, 5, 332]⟩
  | 6 => ⟨[0, 2, 3, 4, 5, 6], [2, 3, 4, 5, 332], [], [], [2, 3, 4, 5, 332]⟩
  | 7 => ⟨[0, 2, 3, 4, 5, 6, 7], [2, 3, 4, 5, 7, 332, 351], [.Vz 7 2 351 1], [], [2, 3, 4, 5, 7, 332, 351]⟩
  | 8 => ⟨[0, 2, 3, 4, 5, 6, 7, 42], [2, 3, 4, 5, 7, 332, 351], [], [], [2, 3, 4, 5, 7, 332, 351]⟩
  | 9 => ⟨[0, 2, 3, 4, 5, 6, 7], [2, 3, 4, 5, 7, 332, 351], [], [], [2, 3, 4, 5, 7, 332, 351]⟩
  | 10 => ⟨[0, 2, 3, 4, 5, 6, 7, 55], [2, 3, 4, 5, 7, 332, 351], [], [], [2, 3, 4, 5, 7, 332, 351]⟩
  | 11 => ⟨[0, 2, 3, 4, 5, 6, 7], [2, 3, 4, 5, 7, 332, 351], [], [], [2, 3, 4, 5, 7, 332, 351]⟩
  | 12 => ⟨[0, 2, 3, 4, 5, 6], [2, 3, 4, 5, 332], [], [], [2, 3, 4, 5, 332]⟩
  | 13 => ⟨[0, 2, 3, 4, 5, 6, 8], [2, 3, 4, 5, 332], [], [], [2, 3, 4, 5, 332]⟩
  | 14 => ⟨[0, 2, 3, 4, 5, 6, 8, 72], [2, 3, 4, 5, 332], [], [], [2, 3, 4, 5, 332]⟩
  | 15 => ⟨[0, 2, 3, 4, 6, 8, 9], [2, 3, 4, 9, 332], [], [], [2, 3, 4, 9, 332]⟩
  | 16 => ⟨[0, 2, 3, 4, 5, 6, 8, 9], [2, 3, 4, 5, 9, 332], [.thaw 5 5 5], [], [2, 3, 4, 5, 9, 332]⟩
  | 17 => ⟨[0, 2, 3, 4, 5, 6, 8, 9, 10], [2, 3, 4, 5, 9, 332], [], [], [2, 3, 4, 5, 9, 332]⟩
  | 18 => ⟨[0, 2, 3, 4, 5, 6, 8, 9, 10, 84], [2, 3, 4, 5, 9, 332], [], [], [2, 3, 4, 5, 9, 332]⟩
  | 19 => ⟨[0, 2, 3, 4, 5, 6], [2, 3, 4, 5, 332], [], [], [2, 3, 4, 5, 332]⟩
  | 20 => ⟨[0, 2, 3, 4, 5, 6, 8, 10, 11], [2, 3, 4, 5, 11, 92, 332], [], [.ren 92 381], [2, 3, 4, 5, 11, 92, 332, 381]⟩
  | 21 => ⟨[0, 2, 3, 4, 5, 6, 10, 11, 108], [2, 3, 4, 5, 11, 332, 381], [], [], [2, 3, 4, 5, 11, 332, 381]⟩
  | 22 => ⟨[0, 2, 3, 4, 5, 6, 10, 11, 12], [2, 3, 4, 5, 11, 12, 332, 381], [], [], [2, 3, 4, 5, 11, 12, 332, 381]⟩
  | 23 => ⟨[0, 2, 3, 4, 5, 6, 10, 12], [2, 3, 4, 5, 12, 332], [.nrm 12 [none, none, none, none, some 5]], [], [2, 3, 4, 5, 12, 332]⟩
  | 24 => ⟨[0, 2, 3, 4, 5, 6], [2, 3, 4, 5, 122], [], [.ren 122 332], [2, 3, 4, 5, 122, 332]⟩
  | 25 => ⟨[0, 2, 3, 4, 5, 6, 10, 11, 151], [2, 3, 4, 5, 11, 332, 381], [], [], [2, 3, 4, 5, 11, 332, 381]⟩
  | 26 => ⟨[0, 2, 3, 4, 5, 6, 10, 11], [2, 3, 4, 5, 11, 332, 381], [], [], [2, 3, 4, 5, 11, 332, 381]⟩
  | 27 => ⟨[0, 2, 3, 4, 5, 6, 11], [2, 3, 4, 5, 11, 162, 381], [], [.ren 162 332], [2, 3, 4, 5, 11, 162, 332, 381]⟩
  | 28 => ⟨[0, 2, 3, 4, 5, 6], [2, 3, 4, 5, 332], [], [], [2, 3, 4, 5, 332]⟩
  | 29 => ⟨[2], [2], [], [], [2]⟩
  | _ => ⟨[], [], [], [], []⟩
noncomputable abbrev KN : Cx := ⟨Tryd.prog, ⟨id, Kh, Ki⟩, Kj⟩
theorem JJ {args : List PV} {r : PV} (ha : args.length = 1) (h : awp KN KX (zS Tryd.prog [.cell 2 28] r []) (zR args [])) : PC Tryd.prog 25 args r :=
  zL (X := KN) mixed Tryd.func25 (c := KX) (by kernel_rfl) (by kernel_rfl) (rs := [.cell 2 28]) (by kernel_rfl) (by kernel_rfl) (by rw [ha]; decide) h
noncomputable def KL : Code := (Tryd.f59.body).getD .skip
def Kc : List (Nat × Nf) := []
def WV : List (Nat × List Nat) := []
def WY : Nat → Ann
  | 0 => ⟨[1, 2], [2, 1000], [], [], [2, 1000]⟩
  | 1 => ⟨[3], [1000], [], [], [1000]⟩
  | _ => ⟨[], [], [], [], []⟩
noncomputable abbrev K9 : Cx := ⟨Tryd.prog, ⟨id, Kc, WV⟩, WY⟩
theorem Xc {args : List PV} {es es' : List Ent} {r : PV} (ha : args.length = 2) (hl : es'.length = es.length) (he : (es'.all fun e => e.wG es.length) = true) (h : awp K9 KL (zS Tryd.prog [.tmp 3] r es') (zR args es)) : BC Tryd.prog 59 args es r es' :=
  xP (X := K9) mixed Tryd.func59 (c := KL) (by kernel_rfl) (by kernel_rfl) (rs := [.tmp 3]) (by kernel_rfl) (by kernel_rfl) (by rw [ha]; decide) hl (fun e h => List.all_eq_true.1 he e h) h
noncomputable def xk : Code := (Tryd.f90.body).getD .skip
def jW : List (Nat × Nf) := []
def jS : List (Nat × List Nat) := []
def jU : Nat → Ann
  | 0 => ⟨[0, 1], [1000], [], [], [1000]⟩
  | 1 => ⟨[0, 1, 7, 8], [1000], [], [], [1000]⟩
  | 2 => ⟨[0, 1, 7, 8, 9], [1000], [], [], [1000]⟩
  | 3 => ⟨[0, 1, 5, 7, 8], [1000], [], [], [1000]⟩
  | 4 => ⟨[0, 1, 5, 7, 8, 16], [1000], [], [], [1000]⟩
  | 5 => ⟨[4], [1000], [], [], [1000]⟩
  | 6 => ⟨[0, 1, 7, 8], [1000], [], [], [1000]⟩
  | 7 => ⟨[4], [1000], [], [], [1000]⟩
  | _ => ⟨[], [], [], [], []⟩
noncomputable abbrev xg : Cx := ⟨Tryd.prog, ⟨id, jW, jS⟩, jU⟩
theorem Zb {args : List PV} {es es' : List Ent} {r : PV} (ha : args.length = 2) (hl : es'.length = es.length) (he : (es'.all fun e => e.wG es.length) = true) (h : awp xg xk (zS Tryd.prog [.tmp 4] r es') (zR args es)) : BC Tryd.prog 90 args es r es' :=
  xP (X := xg) mixed Tryd.func90 (c := xk) (by kernel_rfl) (by kernel_rfl) (rs := [.tmp 4]) (by kernel_rfl) (by kernel_rfl) (by rw [ha]; decide) hl (fun e h => List.all_eq_true.1 he e h) h
noncomputable def jw : Code := (Tryd.f60.body).getD .skip
def ja : List (Nat × Nf) := []
def jc : List (Nat × List Nat) := []
def jg : Nat → Ann
  | 0 => ⟨[0, 1], [1000], [], [], [1000]⟩
  | 1 => ⟨[4], [1000], [], [], [1000]⟩
  | _ => ⟨[], [], [], [], []⟩
noncomputable abbrev jB : Cx := ⟨Tryd.prog, ⟨id, ja, jc⟩, jg⟩
theorem yx {args : List PV} {es es' : List Ent} {r : PV} (ha : args.length = 2) (hl : es'.length = es.length) (he : (es'.all fun e => e.wG es.length) = true) (h : awp jB jw (zS Tryd.prog [.tmp 4] r es') (zR args es)) : BC Tryd.prog 60 args es r es' :=
  xP (X := jB) mixed Tryd.func60 (c := jw) (by kernel_rfl) (by kernel_rfl) (rs := [.tmp 4]) (by kernel_rfl) (by kernel_rfl) (by rw [ha]; decide) hl (fun e h => List.all_eq_true.1 he e h) h
noncomputable def Jc : Code := (Tryd.f91.body).getD .skip
def VK : List (Nat × Nf) := []
def Vu : List (Nat × List Nat) := []
def Vy : Nat → Ann
  | 0 => ⟨[1], [1], [], [], [1]⟩
  | 1 => ⟨[2], [], [], [], []⟩
  | _ => ⟨[], [], [], [], []⟩
noncomputable abbrev Ja : Cx := ⟨Tryd.prog, ⟨id, VK, Vu⟩, Vy⟩
theorem Ye {args : List PV} {r : PV} (ha : args.length = 1) (h : awp Ja Jc (zS Tryd.prog [.tmp 2] r []) (zR args [])) : PC Tryd.prog 91 args r :=
  zL (X := Ja) mixed Tryd.func91 (c := Jc) (by kernel_rfl) (by kernel_rfl) (rs := [.tmp 2]) (by kernel_rfl) (by kernel_rfl) (by rw [ha]; decide) h
noncomputable def aez : Code := (Tryd.f61.body).getD .skip
def ac1 : List (Nat × Nf) := []
def acF : List (Nat × List Nat) := []
def acs : Nat → Ann
  | 0 => ⟨[0, 1], [], [], [], []⟩
  | 1 => ⟨[1, 7, 8, 9], [], [], [], []⟩
  | 2 => ⟨[1, 7, 8, 9, 10], [], [], [], []⟩
  | 3 => ⟨[1, 6, 7, 8, 9], [6], [], [], [6]⟩
  | 4 => ⟨[1, 7, 8, 9, 22], [], [], [], []⟩
  | 5 => ⟨[4], [], [], [], []⟩
  | 6 => ⟨[1, 7, 8, 9], [], [], [], []⟩
  | 7 => ⟨[4], [], [], [], []⟩
  | _ => ⟨[], [], [], [], []⟩
noncomputable abbrev aeL : Cx := ⟨Tryd.prog, ⟨id, ac1, acF⟩, acs⟩
theorem ae6 {args : List PV} {r : PV} (ha : args.length = 2) (h : awp aeL aez (zS Tryd.prog [.tmp 4] r []) (zR args [])) : PC Tryd.prog 61 args r :=
  zL (X := aeL) mixed Tryd.func61 (c := aez) (by kernel_rfl) (by kernel_rfl) (rs := [.tmp 4]) (by kernel_rfl) (by kernel_rfl) (by rw [ha]; decide) h
noncomputable def VA : Code := (Tryd.f92.body).getD .skip
def KR : List (Nat × Nf) := []
def Vb : List (Nat × List Nat) := []
def Vi : Nat → Ann
  | 0 => ⟨[1, 2, 3], [3], [], [], [3]⟩
  | 1 => ⟨[1, 2, 3, 7], [3], [], [], [3]⟩
  | 2 => ⟨[6], [], [], [], []⟩
  | 3 => ⟨[1, 2, 3, 12], [3], [], [], [3]⟩
  | 4 => ⟨[6], [], [], [], []⟩
  | 5 => ⟨[6], [], [], [], []⟩
  | _ => ⟨[], [], [], [], []⟩
noncomputable abbrev VE : Cx := ⟨Tryd.prog, ⟨id, KR, Vb⟩, Vi⟩
theorem XC {args : List PV} {r : PV} (ha : args.length = 3) (h : awp VE VA (zS Tryd.prog [.tmp 6] r []) (zR args [])) : PC Tryd.prog 92 args r :=
  zL (X := VE) mixed Tryd.func92 (c := VA) (by kernel_rfl) (by kernel_rfl) (rs := [.tmp 6]) (by kernel_rfl) (by kernel_rfl) (by rw [ha]; decide) h
noncomputable def aiT : Code := (Tryd.f62.body).getD .skip
def ahr : List (Nat × Nf) := []
def afU : List (Nat × List Nat) := []
def afD : Nat → Ann
  | 0 => ⟨[0, 1, 2], [], [], [], []⟩
  | 1 => ⟨[0, 1, 2, 7], [], [], [], []⟩
  | 2 => ⟨[1, 2, 7, 10, 11, 12], [], [], [], []⟩
  | 3 => ⟨[1, 2, 7, 10, 11, 12, 13], [], [], [], []⟩
  | 4 => ⟨[1, 2, 7, 9, 10, 11, 12], [9], [], [], [9]⟩
  | 5 => ⟨[6], [], [], [], []⟩
  | 6 => ⟨[1, 2, 7, 9, 10, 11, 12, 20], [9], [], [], [9]⟩
  | 7 => ⟨[1, 2, 7, 10, 11, 12], [], [], [], []⟩
  | 8 => ⟨[1, 2, 7, 9, 32], [9], [], [], [9]⟩
  | 9 => ⟨[7, 9, 37], [9], [], [], [9]⟩
  | 10 => ⟨[6], [], [], [], []⟩
  | 11 => ⟨[1, 2, 7, 10, 11, 12], [], [], [], []⟩
  | 12 => ⟨[6], [], [], [], []⟩
  | _ => ⟨[], [], [], [], []⟩
noncomputable abbrev ai8 : Cx := ⟨Tryd.prog, ⟨id, ahr, afU⟩, afD⟩
theorem ahQ {args : List PV} {r : PV} (ha : args.length = 3) (h : awp ai8 aiT (zS Tryd.prog [.tmp 6] r []) (zR args [])) : PC Tryd.prog 62 args r :=
  zL (X := ai8) mixed Tryd.func62 (c := aiT) (by kernel_rfl) (by kernel_rfl) (rs := [.tmp 6]) (by kernel_rfl) (by kernel_rfl) (by rw [ha]; decide) h
noncomputable def YI : Code := (Tryd.f31.body).getD .skip
def Xp : List (Nat × Nf) := [(29, [none, none, none, some 5, none, none])]
def Xh : List (Nat × List Nat) := []
def Xq : Nat → Ann
  | 0 => ⟨[1, 2, 4], [2, 4], [.nrm 4 [none, none, none, some 5, none, none]], [], [2, 4]⟩
  | 1 => ⟨[1, 2, 4, 14], [2, 4], [], [], [2, 4]⟩
  | 2 => ⟨[4, 5], [4], [], [], [4]⟩
  | 3 => ⟨[1, 2, 4, 18], [2, 4], [], [], [2, 4]⟩
  | 4 => ⟨[1, 2, 4, 6], [2, 4], [], [], [2, 4]⟩
  | 5 => ⟨[1, 2, 4, 28], [2, 4], [], [], [2, 4]⟩
  | 6 => ⟨[4, 5], [4], [], [], [4]⟩
  | 7 => ⟨[2, 4], [2, 4], [], [], [2, 4]⟩
  | 8 => ⟨[4, 5], [4], [], [], [4]⟩
  | 9 => ⟨[2, 4], [2, 4], [], [], [2, 4]⟩
  | 10 => ⟨[2, 4], [2, 4], [], [], [2, 4]⟩
  | 11 => ⟨[4, 5], [4], [], [], [4]⟩
  | _ => ⟨[], [], [], [], []⟩
noncomputable abbrev YG : Cx := ⟨Tryd.prog, ⟨id, Xp, Xh⟩, Xq⟩
theorem abw {args : List PV} {r : PV} (ha : args.length = 2) (h : awp YG YI (zS Tryd.prog [.cell 4 39, .tmp 5] r []) (zR args [])) : PC Tryd.prog 31 args r :=
  zL (X := YG) mixed Tryd.func31 (c := YI) (by kernel_rfl) (by kernel_rfl) (rs := [.cell 4 39, .tmp 5]) (by kernel_rfl) (by kernel_rfl) (by rw [ha]; decide) h
noncomputable def abP : Code := (Tryd.f32.body).getD .skip
def aaO : List (Nat × Nf) := []
def aa2 : List (Nat × List Nat) := []
def aaS : Nat → Ann
  | 0 => ⟨[1], [1], [], [], [1]⟩
  | 1 => ⟨[1, 3], [1], [], [], [1]⟩
  | 2 => ⟨[1, 3, 20], [1], [], [], [1]⟩
  | 3 => ⟨[2], [], [.nrm 2 [some 3]], [], []⟩
  | 4 => ⟨[2], [30], [], [.ren 30 2], [2, 30]⟩
  | _ => ⟨[], [], [], [], []⟩
noncomputable abbrev adm : Cx := ⟨Tryd.prog, ⟨id, aaO, aa2⟩, aaS⟩
theorem adN {args : List PV} {r : PV} (ha : args.length = 1) (h : awp adm abP (zS Tryd.prog [.tmp 2] r []) (zR args [])) : PC Tryd.prog 32 args r :=
  zL (X := adm) mixed Tryd.func32 (c := abP) (by kernel_rfl) (by kernel_rfl) (rs := [.tmp 2]) (by kernel_rfl) (by kernel_rfl) (by rw [ha]; decide) h
noncomputable def yD : Code := (Tryd.f8.body).getD .skip
def xY : List (Nat × Nf) := [(44, [none, none, some 1, some 2, some 5]), (46, [none, none, none, some 5, none, none]), (50, [none, none, some 1, some 2, some 5]), (52, [none, none, none, some 5, none, none])]
def x9 : List (Nat × List Nat) := []
def xV : Nat → Ann
  | 0 => ⟨[0, 1, 2], [], [], [], []⟩
  | 1 => ⟨[0, 1, 2, 7], [], [], [], []⟩
  | 2 => ⟨[0, 1, 2, 23], [], [], [], []⟩
  | 3 => ⟨[6], [], [], [], []⟩
  | 4 => ⟨[1, 2, 8], [8], [], [], [8]⟩
  | 5 => ⟨[2, 8, 9], [8], [], [], [8]⟩
  | 6 => ⟨[8, 9, 10], [8], [], [], [8]⟩
  | 7 => ⟨[8, 9, 10, 40], [8], [], [], [8]⟩
  | 8 => ⟨[6], [], [], [], []⟩
  | 9 => ⟨[8, 10, 11], [8, 11], [], [], [8, 11]⟩
  | 10 => ⟨[8, 11, 12], [8, 11, 12], [], [], [8, 11, 12]⟩
  | 11 => ⟨[8, 11, 12, 13, 14], [8, 11, 12, 13], [], [], [8, 11, 12, 13]⟩
  | 12 => ⟨[8, 11, 12, 13, 14, 15, 16], [8, 11, 12, 13, 15], [], [], [8, 11, 12, 13, 15]⟩
  | 13 => ⟨[8, 12, 14, 15, 16, 17, 18], [8, 12, 15, 17], [], [], [8, 12, 15, 17]⟩
  | 14 => ⟨[14, 16, 17, 18, 19, 20], [17, 19], [], [], [17, 19]⟩
  | 15 => ⟨[6], [], [], [], []⟩
  | _ => ⟨[], [], [], [], []⟩
noncomputable abbrev yA : Cx := ⟨Tryd.prog, ⟨id, xY, x9⟩, xV⟩
theorem Wd {args : List PV} {r : PV} (ha : args.length = 3) (h : awp yA yD (zS Tryd.prog [.tmp 6] r []) (zR args [])) : PC Tryd.prog 8 args r :=
  zL (X := yA) mixed Tryd.func8 (c := yD) (by kernel_rfl) (by kernel_rfl) (rs := [.tmp 6]) (by kernel_rfl) (by kernel_rfl) (by rw [ha]; decide) h
attribute [go_sem] XJ Yh YM jI jG jH aaZ aad aar acT acR acd Qs Qr Qh aao aaD aaV ac0 acn acQ ace acA acP aaw aai aaJ Yw X5 X7 aaP aau aaj aaF aaM aay aaE aas aa7 Zc Ze Zf WT Km Kb XL Yy Yk Jg Jh Jm Yt Ym YL Xt Xk Xi xu xq xx Zy Zm Zd aag aaz aap aeV aeC aeW Qy Qp QA Zp y9 Zt Qu Qn Qm acb aci ab8 Ql Qv Qe aaT aam aaG aaI abd aa3 K4 Vl Vj Kl WR Ka XN YH YE XP XG XZ Yv XX Ya yT yX yU acv acG abR aa1 aaY aac aeI aeA aeo Zr Zv Zh vw vk vG acp ado ab1 QJ QR QN WH WL Wt Wv WC WI y7 Zj Zg WW WX Kg Wx Ww Wz Kj Kh Ki WY Kc WV jU jW jS jg ja jc Vy VK Vu acs ac1 acF Vi KR Vb afD ahr afU Xq Xp Xh aaS aaO aa2 xV xY x9 ty3 ty4 ty5 ty9 avz avK avS avN avd avJ avM avL avD avC avI avF avQ avR avP avg auI avs avb auB zx.x8 zh.x8 za.x8 zz.x8 qH.x8 qU.x8 zg.x8 jV.x8 pvL
theorem pvE : (∀ x : zx, x.pv = .agg [.int .i64 x.Text, .int .i64 x.Marks, .int .i64 x.zu, .int .i64 x.In]) ∧ (∀ x : zh, x.pv = .agg [.str x.Name, .str x.Value]) ∧ (∀ x : za, x.pv = .agg [.str x.Kind, .str x.Text, .list 1 (x.Marks.map PV.str), .list 2 (x.zu.map zh.pv), .list 5 (x.Kids.map za.pv)]) ∧ (∀ x : zz, x.pv = .agg [.int .u8 x.Kind, .int .i64 x.From, .int .i64 x.To, .list 5 (x.qK.map za.pv), .str x.Name, .str x.Value]) ∧ (∀ x : qH, x.pv = .agg [.list 1 (x.path.map (PV.int .i64)), .str x.in_.Kind, .str x.in_.Text, .list 1 (x.in_.Marks.map PV.str), .list 2 (x.in_.zu.map zh.pv), .list 5 (x.in_.Kids.map za.pv), .int .i64 x.from_, .int .i64 x.to_]) ∧ (∀ x : qU, x.pv = .agg [.list 1 (x.Path.map (PV.int .i64)), .int .i64 x.Index, .int .i64 x.Offset]) ∧ (∀ x : zg, x.pv = .agg [.int .i64 x.Pos, .int .i64 x.Old, .int .i64 x.New]) ∧ (∀ x : jV, x.pv = .agg [.int .u8 x.s.Kind, .int .i64 x.s.From, .int .i64 x.s.To, .list 5 (x.s.qK.map za.pv), .str x.s.Name, .str x.s.Value, .list 3 (x.changed.map zg.pv)]) ∧ (∀ (α : Type) (sz : Nat) (f : α → PV) (l : List α), pvL sz f l = .list sz (l.map f)) :=
  ⟨zx.x8, zh.x8, za.x8, zz.x8, qH.x8, qU.x8, zg.x8, jV.x8, fun _ _ _ _ => rfl⟩
theorem lsE {α β : Type} (f : α → β) : (∀ a l, List.map f (a :: l) = f a :: List.map f l) ∧ List.map f [] = [] ∧ (∀ a b, List.map f (a ++ b) = List.map f a ++ List.map f b) :=
  ⟨fun _ _ => rfl, rfl, fun a b => List.map_append⟩
end Go.Proofs.YtclohbgnaopjfaaDoor
