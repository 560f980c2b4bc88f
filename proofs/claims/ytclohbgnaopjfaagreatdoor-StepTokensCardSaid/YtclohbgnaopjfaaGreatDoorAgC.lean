/- Texts of the proof of stepTokensCard -/
import Derived.Test.YtclohbgnaopjfaaGreatDoorAgT
import Derived.Test.YtclohbgnaopjfaaGreatDoorAwT
namespace Go.Proofs.YtclohbgnaopjfaaGreatDoor
set_option linter.unusedSimpArgs false
set_option linter.unusedVariables false
open Go
set_option maxRecDepth 100000
noncomputable def aav : Code := (Tryz.f81.body).getD .skip
def XT : List (Nat × Nf) := []
def Yp : List (Nat × List Nat) := []
def Yc : Nat → Ann
 | 0 => ⟨[0], [], [], [], []⟩
 | 1 => ⟨[0], [], [], [], []⟩
 | 2 => ⟨[2], [], [], [], []⟩
 | _ => ⟨[], [], [], [], []⟩
noncomputable abbrev aaI : Cx := ⟨Tryz.prog, ⟨id, XT, Yp⟩, Yc⟩
theorem ac6 {args : List PV} {r : PV} (ha : args.length = 1) (h : awp aaI aav (zZ Tryz.prog [.tmp 2] r []) (zS args [])) : PC Tryz.prog 81 args r :=
 zL (X := aaI) mixed Tryz.func81 (c := aav) (by kernel_rfl) (by kernel_rfl) (rs := [.tmp 2]) (by kernel_rfl) (by kernel_rfl) (by rw [ha]; decide) h
noncomputable def ads : Code := (Tryz.f39.body).getD .skip
def aa8 : List (Nat × Nf) := []
def aaX : List (Nat × List Nat) := [(32, [5]), (33, [5]), (35, [5]), (36, [5]), (40, [3, 39])]
def abu : Nat → Ann
 | 0 => ⟨[1], [1], [], [], [1]⟩
 | 1 => ⟨[1, 8], [1], [], [], [1]⟩
 | 2 => ⟨[1, 12], [1], [], [], [1]⟩
 | 3 => ⟨[2], [], [], [], []⟩
 | 4 => ⟨[2], [], [], [], []⟩
 | 5 => ⟨[1, 21], [1], [], [], [1]⟩
 | 6 => ⟨[2], [], [], [], []⟩
 | 7 => ⟨[1, 3], [1, 3], [.thaw 3 3 1], [], [1, 3]⟩
 | 8 => ⟨[1, 3, 25, 26, 27], [1, 3], [], [], [1, 3]⟩
 | 9 => ⟨[1, 3, 25, 26, 27, 28], [1, 3], [], [], [1, 3]⟩
 | 10 => ⟨[1, 3, 5, 25, 26, 27], [1, 3, 5], [], [], [1, 3, 5]⟩
 | 11 => ⟨[1, 3, 25, 26, 27], [1, 3], [], [], [1, 3]⟩
 | 12 => ⟨[1, 3, 25, 26, 27], [1, 3], [], [], [1, 3]⟩
 | 13 => ⟨[2], [], [], [], []⟩
 | _ => ⟨[], [], [], [], []⟩
noncomputable abbrev acM : Cx := ⟨Tryz.prog, ⟨id, aa8, aaX⟩, abu⟩
theorem aeC {args : List PV} {r : PV} (ha : args.length = 1) (h : awp acM ads (zZ Tryz.prog [.tmp 2] r []) (zS args [])) : PC Tryz.prog 39 args r :=
 zL (X := acM) mixed Tryz.func39 (c := ads) (by kernel_rfl) (by kernel_rfl) (rs := [.tmp 2]) (by kernel_rfl) (by kernel_rfl) (by rw [ha]; decide) h
noncomputable def agp : Code := (Tryz.f10.body).getD .skip
def afk : List (Nat × Nf) := []
def aeZ : List (Nat × List Nat) := []
def ae0 : Nat → Ann
 | 0 => ⟨[0], [], [], [], []⟩
 | 1 => ⟨[0, 3], [3], [.thaw 3 3 3], [], [3]⟩
 | 2 => ⟨[3, 8, 9, 10], [3], [], [], [3]⟩
 | 3 => ⟨[3, 8, 9, 10, 11], [3], [], [], [3]⟩
 | 4 => ⟨[3, 5, 8, 9, 10], [3, 5], [], [], [3, 5]⟩
 | 5 => ⟨[3, 5, 8, 9, 10, 16], [3, 5], [], [], [3, 5]⟩
 | 6 => ⟨[3, 5, 8, 9, 10, 19], [3, 5, 19], [], [], [3, 5, 19]⟩
 | 7 => ⟨[3, 5, 8, 9, 10, 19, 20, 21], [3, 5, 19], [], [], [3, 5, 19]⟩
 | 8 => ⟨[3, 5, 7, 8, 9, 10, 19], [3, 5, 19], [], [], [3, 5, 19]⟩
 | 9 => ⟨[3, 5, 8, 9, 10, 19], [3, 5, 19], [], [], [3, 5, 19]⟩
 | 10 => ⟨[3, 5, 8, 9, 10], [3, 5], [], [], [3, 5]⟩
 | 11 => ⟨[3, 8, 9, 10], [3], [], [], [3]⟩
 | 12 => ⟨[3, 8, 9, 10], [3], [], [], [3]⟩
 | 13 => ⟨[3, 8, 9, 10], [3], [], [], [3]⟩
 | 14 => ⟨[2], [3], [], [.ren 3 2], [2, 3]⟩
 | _ => ⟨[], [], [], [], []⟩
noncomputable abbrev ahz : Cx := ⟨Tryz.prog, ⟨id, afk, aeZ⟩, ae0⟩
theorem af2 {args : List PV} {r : PV} (ha : args.length = 1) (h : awp ahz agp (zZ Tryz.prog [.tmp 2] r []) (zS args [])) : PC Tryz.prog 10 args r :=
 zL (X := ahz) mixed Tryz.func10 (c := agp) (by kernel_rfl) (by kernel_rfl) (rs := [.tmp 2]) (by kernel_rfl) (by kernel_rfl) (by rw [ha]; decide) h
noncomputable def aaY : Code := (Tryz.f107.body).getD .skip
def Yy : List (Nat × Nf) := []
def Yv : List (Nat × List Nat) := []
def YG : Nat → Ann
 | 0 => ⟨[1], [1], [], [], [1]⟩
 | 1 => ⟨[2], [], [], [], []⟩
 | _ => ⟨[], [], [], [], []⟩
noncomputable abbrev aaO : Cx := ⟨Tryz.prog, ⟨id, Yy, Yv⟩, YG⟩
theorem ac3 {args : List PV} {r : PV} (ha : args.length = 1) (h : awp aaO aaY (zZ Tryz.prog [.tmp 2] r []) (zS args [])) : PC Tryz.prog 107 args r :=
 zL (X := aaO) mixed Tryz.func107 (c := aaY) (by kernel_rfl) (by kernel_rfl) (rs := [.tmp 2]) (by kernel_rfl) (by kernel_rfl) (by rw [ha]; decide) h
noncomputable def jM : Code := (Tryz.f108.body).getD .skip
def jy : List (Nat × Nf) := []
def jC : List (Nat × List Nat) := []
def jB : Nat → Ann
 | 0 => ⟨[0, 2], [], [], [], []⟩
 | 1 => ⟨[2, 4], [4], [], [], [4]⟩
 | 2 => ⟨[2, 4, 6], [4], [], [], [4]⟩
 | 3 => ⟨[2, 4], [4], [], [], [4]⟩
 | 4 => ⟨[2], [], [], [], []⟩
 | _ => ⟨[], [], [], [], []⟩
noncomputable abbrev jO : Cx := ⟨Tryz.prog, ⟨id, jy, jC⟩, jB⟩
theorem yQ {args : List PV} {r : PV} (ha : args.length = 1) (h : awp jO jM (zZ Tryz.prog [.tmp 2] r []) (zS args [])) : PC Tryz.prog 108 args r :=
 zL (X := jO) mixed Tryz.func108 (c := jM) (by kernel_rfl) (by kernel_rfl) (rs := [.tmp 2]) (by kernel_rfl) (by kernel_rfl) (by rw [ha]; decide) h
noncomputable def aeV : Code := (Tryz.f68.body).getD .skip
def acA : List (Nat × Nf) := []
def aca : List (Nat × List Nat) := []
def adi : Nat → Ann
 | 0 => ⟨[1], [1], [], [], [1]⟩
 | 1 => ⟨[1, 4], [1], [], [], [1]⟩
 | 2 => ⟨[2], [], [], [], []⟩
 | 3 => ⟨[2], [], [], [], []⟩
 | _ => ⟨[], [], [], [], []⟩
noncomputable abbrev ae9 : Cx := ⟨Tryz.prog, ⟨id, acA, aca⟩, adi⟩
theorem afw {args : List PV} {r : PV} (ha : args.length = 1) (h : awp ae9 aeV (zZ Tryz.prog [.tmp 2] r []) (zS args [])) : PC Tryz.prog 68 args r :=
 zL (X := ae9) mixed Tryz.func68 (c := aeV) (by kernel_rfl) (by kernel_rfl) (rs := [.tmp 2]) (by kernel_rfl) (by kernel_rfl) (by rw [ha]; decide) h
noncomputable def ac7 : Code := (Tryz.f34.body).getD .skip
def aa4 : List (Nat × Nf) := []
def aa6 : List (Nat × List Nat) := []
def aaF : Nat → Ann
 | 0 => ⟨[0], [], [], [], []⟩
 | 1 => ⟨[0, 3], [], [], [], []⟩
 | 2 => ⟨[3, 6, 7, 8], [], [], [], []⟩
 | 3 => ⟨[3, 6, 7, 8, 9], [], [], [], []⟩
 | 4 => ⟨[3, 5, 6, 7, 8], [5], [], [], [5]⟩
 | 5 => ⟨[3, 6, 7, 8], [], [], [], []⟩
 | 6 => ⟨[3, 6, 7, 8], [], [], [], []⟩
 | 7 => ⟨[2], [], [], [], []⟩
 | _ => ⟨[], [], [], [], []⟩
noncomputable abbrev ab8 : Cx := ⟨Tryz.prog, ⟨id, aa4, aa6⟩, aaF⟩
theorem ad3 {args : List PV} {r : PV} (ha : args.length = 1) (h : awp ab8 ac7 (zZ Tryz.prog [.tmp 2] r []) (zS args [])) : PC Tryz.prog 34 args r :=
 zL (X := ab8) mixed Tryz.func34 (c := ac7) (by kernel_rfl) (by kernel_rfl) (rs := [.tmp 2]) (by kernel_rfl) (by kernel_rfl) (by rw [ha]; decide) h
noncomputable def acn : Code := (Tryz.f11.body).getD .skip
def abf : List (Nat × Nf) := []
def abb : List (Nat × List Nat) := []
def aaM : Nat → Ann
 | 0 => ⟨[1], [1], [], [], [1]⟩
 | 1 => ⟨[1, 3], [1], [], [], [1]⟩
 | 2 => ⟨[1, 3, 20], [1], [], [], [1]⟩
 | 3 => ⟨[2], [], [.nrm 2 [some 3]], [], []⟩
 | 4 => ⟨[2], [30], [], [.ren 30 2], [2, 30]⟩
 | _ => ⟨[], [], [], [], []⟩
noncomputable abbrev acs : Cx := ⟨Tryz.prog, ⟨id, abf, abb⟩, aaM⟩
theorem aeo {args : List PV} {r : PV} (ha : args.length = 1) (h : awp acs acn (zZ Tryz.prog [.tmp 2] r []) (zS args [])) : PC Tryz.prog 11 args r :=
 zL (X := acs) mixed Tryz.func11 (c := acn) (by kernel_rfl) (by kernel_rfl) (rs := [.tmp 2]) (by kernel_rfl) (by kernel_rfl) (by rw [ha]; decide) h
noncomputable def JN : Code := (Tryz.f40.body).getD .skip
def VT : List (Nat × Nf) := []
def VL : List (Nat × List Nat) := []
def VQ : Nat → Ann
 | 0 => ⟨[1], [1], [], [], [1]⟩
 | 1 => ⟨[2], [], [], [], []⟩
 | _ => ⟨[], [], [], [], []⟩
noncomputable abbrev JO : Cx := ⟨Tryz.prog, ⟨id, VT, VL⟩, VQ⟩
theorem YL {args : List PV} {r : PV} (ha : args.length = 1) (h : awp JO JN (zZ Tryz.prog [.tmp 2] r []) (zS args [])) : PC Tryz.prog 40 args r :=
 zL (X := JO) mixed Tryz.func40 (c := JN) (by kernel_rfl) (by kernel_rfl) (rs := [.tmp 2]) (by kernel_rfl) (by kernel_rfl) (by rw [ha]; decide) h
noncomputable def VU : Code := (Tryz.f41.body).getD .skip
def KP : List (Nat × Nf) := []
def Vh : List (Nat × List Nat) := []
def Vt : Nat → Ann
 | 0 => ⟨[1, 2, 3], [3], [], [], [3]⟩
 | 1 => ⟨[1, 2, 3, 7], [3], [], [], [3]⟩
 | 2 => ⟨[6], [], [], [], []⟩
 | 3 => ⟨[1, 2, 3, 12], [3], [], [], [3]⟩
 | 4 => ⟨[6], [], [], [], []⟩
 | 5 => ⟨[6], [], [], [], []⟩
 | _ => ⟨[], [], [], [], []⟩
noncomputable abbrev VM : Cx := ⟨Tryz.prog, ⟨id, KP, Vh⟩, Vt⟩
theorem XR {args : List PV} {r : PV} (ha : args.length = 3) (h : awp VM VU (zZ Tryz.prog [.tmp 6] r []) (zS args [])) : PC Tryz.prog 41 args r :=
 zL (X := VM) mixed Tryz.func41 (c := VU) (by kernel_rfl) (by kernel_rfl) (rs := [.tmp 6]) (by kernel_rfl) (by kernel_rfl) (by rw [ha]; decide) h
noncomputable def aiQ : Code := (Tryz.f12.body).getD .skip
def ah0 : List (Nat × Nf) := []
def ahq : List (Nat × List Nat) := []
def agr : Nat → Ann
 | 0 => ⟨[0, 1, 2], [], [], [], []⟩
 | 1 => ⟨[0, 1, 2, 7], [], [], [], []⟩
 | 2 => ⟨[1, 2, 7, 10, 11, 12], [], [], [], []⟩
 | 3 => ⟨[1, 2, 7, 10, 11, 12, 13], [], [], [], []⟩
 | 4 => ⟨[1, 2, 7, 9, 10, 11, 12], [9], [], [], [9]⟩
 | 5 => ⟨[6], [], [], [], []⟩
 | 6 => ⟨[1, 2, 7, 9, 10, 11, 12, 20], [9], [], [], [9]⟩
 | 7 => ⟨[1, 2, 7, 10, 11, 12], [], [], [], []⟩
 | 8 => ⟨[1, 2, 7, 9, 32], [9], [], [], [9]⟩
 | 9 => ⟨[7, 9, 37], [9], [], [], [9]⟩
 | 10 => ⟨[6], [], [], [], []⟩
 | 11 => ⟨[1, 2, 7, 10, 11, 12], [], [], [], []⟩
 | 12 => ⟨[6], [], [], [], []⟩
 | _ => ⟨[], [], [], [], []⟩
noncomputable abbrev aiR : Cx := ⟨Tryz.prog, ⟨id, ah0, ahq⟩, agr⟩
theorem ah4 {args : List PV} {r : PV} (ha : args.length = 3) (h : awp aiR aiQ (zZ Tryz.prog [.tmp 6] r []) (zS args [])) : PC Tryz.prog 12 args r :=
 zL (X := aiR) mixed Tryz.func12 (c := aiQ) (by kernel_rfl) (by kernel_rfl) (rs := [.tmp 6]) (by kernel_rfl) (by kernel_rfl) (by rw [ha]; decide) h
noncomputable def K9 : Code := (Tryz.f13.body).getD .skip
def Kj : List (Nat × Nf) := []
def WV : List (Nat × List Nat) := []
def Ko : Nat → Ann
 | 0 => ⟨[0, 1], [], [], [], []⟩
 | 1 => ⟨[0, 1, 5], [], [], [], []⟩
 | 2 => ⟨[0, 1, 5, 9], [], [], [], []⟩
 | 3 => ⟨[0, 1, 5], [], [], [], []⟩
 | 4 => ⟨[0, 1, 5, 18], [], [], [], []⟩
 | 5 => ⟨[4], [], [], [], []⟩
 | 6 => ⟨[4], [], [], [], []⟩
 | _ => ⟨[], [], [], [], []⟩
noncomputable abbrev Vn : Cx := ⟨Tryz.prog, ⟨id, Kj, WV⟩, Ko⟩
theorem Xr {args : List PV} {r : PV} (ha : args.length = 2) (h : awp Vn K9 (zZ Tryz.prog [.tmp 4] r []) (zS args [])) : PC Tryz.prog 13 args r :=
 zL (X := Vn) mixed Tryz.func13 (c := K9) (by kernel_rfl) (by kernel_rfl) (rs := [.tmp 4]) (by kernel_rfl) (by kernel_rfl) (by rw [ha]; decide) h
noncomputable def QA : Code := (Tryz.f138.body).getD .skip
def Qo : List (Nat × Nf) := []
def Qd : List (Nat × List Nat) := []
def Qi : Nat → Ann
 | 0 => ⟨[0, 1], [], [], [], []⟩
 | 1 => ⟨[0, 1, 10], [], [], [], []⟩
 | 2 => ⟨[4], [], [], [], []⟩
 | 3 => ⟨[0, 1, 12, 13], [], [], [], []⟩
 | 4 => ⟨[0, 1, 12, 13, 14], [], [], [], []⟩
 | 5 => ⟨[0, 1, 5, 12, 13], [], [], [], []⟩
 | 6 => ⟨[0, 1, 12, 13, 24], [], [], [], []⟩
 | 7 => ⟨[4], [], [], [], []⟩
 | 8 => ⟨[0, 1, 12, 13], [], [], [], []⟩
 | 9 => ⟨[4], [], [], [], []⟩
 | _ => ⟨[], [], [], [], []⟩
noncomputable abbrev QB : Cx := ⟨Tryz.prog, ⟨id, Qo, Qd⟩, Qi⟩
theorem VB {args : List PV} {r : PV} (ha : args.length = 2) (h : awp QB QA (zZ Tryz.prog [.tmp 4] r []) (zS args [])) : PC Tryz.prog 138 args r :=
 zL (X := QB) mixed Tryz.func138 (c := QA) (by kernel_rfl) (by kernel_rfl) (rs := [.tmp 4]) (by kernel_rfl) (by kernel_rfl) (by rw [ha]; decide) h
noncomputable def ac4 : Code := (Tryz.f113.body).getD .skip
def aay : List (Nat × Nf) := []
def aaA : List (Nat × List Nat) := []
def aat : Nat → Ann
 | 0 => ⟨[2, 3], [2, 3], [], [], [2, 3]⟩
 | 1 => ⟨[4], [], [], [], []⟩
 | _ => ⟨[], [], [], [], []⟩
noncomputable abbrev ack : Cx := ⟨Tryz.prog, ⟨id, aay, aaA⟩, aat⟩
theorem aea {args : List PV} {r : PV} (ha : args.length = 2) (h : awp ack ac4 (zZ Tryz.prog [.tmp 4] r []) (zS args [])) : PC Tryz.prog 113 args r :=
 zL (X := ack) mixed Tryz.func113 (c := ac4) (by kernel_rfl) (by kernel_rfl) (rs := [.tmp 4]) (by kernel_rfl) (by kernel_rfl) (by rw [ha]; decide) h
noncomputable def aeO : Code := (Tryz.f52.body).getD .skip
def ac1 : List (Nat × Nf) := []
def acG : List (Nat × List Nat) := []
def adt : Nat → Ann
 | 0 => ⟨[0], [], [], [], []⟩
 | 1 => ⟨[0, 3], [], [], [], []⟩
 | 2 => ⟨[2], [], [], [], []⟩
 | _ => ⟨[], [], [], [], []⟩
noncomputable abbrev aeS : Cx := ⟨Tryz.prog, ⟨id, ac1, acG⟩, adt⟩
theorem afD {args : List PV} {r : PV} (ha : args.length = 1) (h : awp aeS aeO (zZ Tryz.prog [.tmp 2] r []) (zS args [])) : PC Tryz.prog 52 args r :=
 zL (X := aeS) mixed Tryz.func52 (c := aeO) (by kernel_rfl) (by kernel_rfl) (rs := [.tmp 2]) (by kernel_rfl) (by kernel_rfl) (by rw [ha]; decide) h
noncomputable def ae5 : Code := (Tryz.f126.body).getD .skip
def acP : List (Nat × Nf) := []
def ace : List (Nat × List Nat) := []
def ab4 : Nat → Ann
 | 0 => ⟨[0], [], [], [], []⟩
 | 1 => ⟨[0, 5, 6, 7], [], [], [], []⟩
 | 2 => ⟨[0, 5, 6, 7, 8], [], [], [], []⟩
 | 3 => ⟨[0, 3, 4, 5, 6, 7], [], [], [], []⟩
 | 4 => ⟨[0, 5, 6, 7, 27], [], [], [], []⟩
 | 5 => ⟨[2], [], [], [], []⟩
 | 6 => ⟨[0, 5, 6, 7], [], [], [], []⟩
 | 7 => ⟨[2], [], [], [], []⟩
 | _ => ⟨[], [], [], [], []⟩
noncomputable abbrev ae7 : Cx := ⟨Tryz.prog, ⟨id, acP, ace⟩, ab4⟩
theorem afs {args : List PV} {r : PV} (ha : args.length = 1) (h : awp ae7 ae5 (zZ Tryz.prog [.tmp 2] r []) (zS args [])) : PC Tryz.prog 126 args r :=
 zL (X := ae7) mixed Tryz.func126 (c := ae5) (by kernel_rfl) (by kernel_rfl) (rs := [.tmp 2]) (by kernel_rfl) (by kernel_rfl) (by rw [ha]; decide) h
noncomputable def acT : Code := (Tryz.f53.body).getD .skip
def abm : List (Nat × Nf) := []
def abk : List (Nat × List Nat) := []
def aaE : Nat → Ann
 | 0 => ⟨[0], [], [], [], []⟩
 | 1 => ⟨[2], [], [], [], []⟩
 | _ => ⟨[], [], [], [], []⟩
noncomputable abbrev ac8 : Cx := ⟨Tryz.prog, ⟨id, abm, abk⟩, aaE⟩
theorem adU {args : List PV} {r : PV} (ha : args.length = 1) (h : awp ac8 acT (zZ Tryz.prog [.tmp 2] r []) (zS args [])) : PC Tryz.prog 53 args r :=
 zL (X := ac8) mixed Tryz.func53 (c := acT) (by kernel_rfl) (by kernel_rfl) (rs := [.tmp 2]) (by kernel_rfl) (by kernel_rfl) (by rw [ha]; decide) h
noncomputable def abe : Code := (Tryz.f95.body).getD .skip
def X4 : List (Nat × Nf) := []
def Yk : List (Nat × List Nat) := []
def Yr : Nat → Ann
 | 0 => ⟨[1], [1], [], [], [1]⟩
 | 1 => ⟨[1, 9], [1], [], [], [1]⟩
 | 2 => ⟨[2], [], [], [], []⟩
 | 3 => ⟨[1, 3], [1, 3], [.thaw 3 3 1], [], [1, 3]⟩
 | 4 => ⟨[1, 3, 34, 35, 36], [1, 3], [], [], [1, 3]⟩
 | 5 => ⟨[1, 3, 34, 35, 36, 37], [1, 3], [], [], [1, 3]⟩
 | 6 => ⟨[1, 3, 5, 34, 35, 36], [1, 3, 5], [], [], [1, 3, 5]⟩
 | 7 => ⟨[1, 3, 5, 34, 35, 36, 43], [1, 3, 5], [], [], [1, 3, 5]⟩
 | 8 => ⟨[2], [], [], [], []⟩
 | 9 => ⟨[1, 3, 34, 35, 36], [1, 3], [], [], [1, 3]⟩
 | 10 => ⟨[1, 3, 34, 35, 36], [1, 3], [], [], [1, 3]⟩
 | 11 => ⟨[1, 69], [1], [], [], [1]⟩
 | 12 => ⟨[2], [], [], [], []⟩
 | 13 => ⟨[1, 71, 72, 73], [1], [], [], [1]⟩
 | 14 => ⟨[1, 71, 72, 73, 74], [1], [], [], [1]⟩
 | 15 => ⟨[1, 6, 7, 71, 72, 73], [1, 7], [], [], [1, 7]⟩
 | 16 => ⟨[1, 71, 72, 73, 94], [1], [], [], [1]⟩
 | 17 => ⟨[2], [], [], [], []⟩
 | 18 => ⟨[1, 71, 72, 73], [1], [], [], [1]⟩
 | 19 => ⟨[2], [], [], [], []⟩
 | _ => ⟨[], [], [], [], []⟩
noncomputable abbrev aa0 : Cx := ⟨Tryz.prog, ⟨id, X4, Yk⟩, Yr⟩
theorem ab7 {args : List PV} {r : PV} (ha : args.length = 1) (h : awp aa0 abe (zZ Tryz.prog [.tmp 2] r []) (zS args [])) : PC Tryz.prog 95 args r :=
 zL (X := aa0) mixed Tryz.func95 (c := abe) (by kernel_rfl) (by kernel_rfl) (rs := [.tmp 2]) (by kernel_rfl) (by kernel_rfl) (by rw [ha]; decide) h
noncomputable def adA : Code := (Tryz.f96.body).getD .skip
def aa7 : List (Nat × Nf) := []
def aaw : List (Nat × List Nat) := []
def aa9 : Nat → Ann
 | 0 => ⟨[1], [1], [], [], [1]⟩
 | 1 => ⟨[1, 7], [1], [], [], [1]⟩
 | 2 => ⟨[2], [], [], [], []⟩
 | 3 => ⟨[1, 3], [1], [], [], [1]⟩
 | 4 => ⟨[3, 9, 10, 11], [], [], [], []⟩
 | 5 => ⟨[3, 9, 10, 11, 12], [], [], [], []⟩
 | 6 => ⟨[3, 5, 9, 10, 11], [5], [], [], [5]⟩
 | 7 => ⟨[3, 9, 10, 11], [], [], [], []⟩
 | 8 => ⟨[3, 9, 10, 11], [], [], [], []⟩
 | 9 => ⟨[2], [], [], [], []⟩
 | _ => ⟨[], [], [], [], []⟩
noncomputable abbrev ab5 : Cx := ⟨Tryz.prog, ⟨id, aa7, aaw⟩, aa9⟩
theorem adV {args : List PV} {r : PV} (ha : args.length = 1) (h : awp ab5 adA (zZ Tryz.prog [.tmp 2] r []) (zS args [])) : PC Tryz.prog 96 args r :=
 zL (X := ab5) mixed Tryz.func96 (c := adA) (by kernel_rfl) (by kernel_rfl) (rs := [.tmp 2]) (by kernel_rfl) (by kernel_rfl) (by rw [ha]; decide) h
noncomputable def ac9 : Code := (Tryz.f51.body).getD .skip
def aax : List (Nat × Nf) := []
def aar : List (Nat × List Nat) := []
def aaV : Nat → Ann
 | 0 => ⟨[1], [1], [], [], [1]⟩
 | 1 => ⟨[1, 3], [1], [], [], [1]⟩
 | 2 => ⟨[2], [], [], [], []⟩
 | 3 => ⟨[1, 7], [1], [], [], [1]⟩
 | 4 => ⟨[2], [], [], [], []⟩
 | 5 => ⟨[11], [], [], [], []⟩
 | 6 => ⟨[2], [], [], [], []⟩
 | 7 => ⟨[2], [], [], [], []⟩
 | _ => ⟨[], [], [], [], []⟩
noncomputable abbrev ab9 : Cx := ⟨Tryz.prog, ⟨id, aax, aar⟩, aaV⟩
theorem aer {args : List PV} {r : PV} (ha : args.length = 1) (h : awp ab9 ac9 (zZ Tryz.prog [.tmp 2] r []) (zS args [])) : PC Tryz.prog 51 args r :=
 zL (X := ab9) mixed Tryz.func51 (c := ac9) (by kernel_rfl) (by kernel_rfl) (rs := [.tmp 2]) (by kernel_rfl) (by kernel_rfl) (by rw [ha]; decide) h
noncomputable def adm : Code := (Tryz.f19.body).getD .skip
def aaK : List (Nat × Nf) := [(26, [none, none, some 1, some 2, none])]
def abr : List (Nat × List Nat) := []
def aaS : Nat → Ann
 | 0 => ⟨[1], [1], [], [], [1]⟩
 | 1 => ⟨[1, 3], [1], [], [], [1]⟩
 | 2 => ⟨[1, 3, 21], [1], [], [], [1]⟩
 | 3 => ⟨[1, 3, 21, 22], [1], [], [], [1]⟩
 | 4 => ⟨[1, 3, 4], [1], [], [], [1]⟩
 | 5 => ⟨[2], [], [], [], []⟩
 | 6 => ⟨[1, 3, 21, 41], [1], [], [], [1]⟩
 | 7 => ⟨[2], [], [], [], []⟩
 | 8 => ⟨[1, 3, 21, 72], [1], [], [], [1]⟩
 | 9 => ⟨[1, 3, 72], [1], [], [], [1]⟩
 | 10 => ⟨[2], [], [], [], []⟩
 | 11 => ⟨[2], [], [], [], []⟩
 | _ => ⟨[], [], [], [], []⟩
noncomputable abbrev adH : Cx := ⟨Tryz.prog, ⟨id, aaK, abr⟩, aaS⟩
theorem aeB {args : List PV} {r : PV} (ha : args.length = 1) (h : awp adH adm (zZ Tryz.prog [.tmp 2] r []) (zS args [])) : PC Tryz.prog 19 args r :=
 zL (X := adH) mixed Tryz.func19 (c := adm) (by kernel_rfl) (by kernel_rfl) (rs := [.tmp 2]) (by kernel_rfl) (by kernel_rfl) (by rw [ha]; decide) h
noncomputable def acb : Code := (Tryz.f35.body).getD .skip
def aaR : List (Nat × Nf) := []
def aaN : List (Nat × List Nat) := []
def aaC : Nat → Ann
 | 0 => ⟨[1], [1], [], [], [1]⟩
 | 1 => ⟨[2], [], [], [], []⟩
 | _ => ⟨[], [], [], [], []⟩
noncomputable abbrev ac2 : Cx := ⟨Tryz.prog, ⟨id, aaR, aaN⟩, aaC⟩
theorem adW {args : List PV} {r : PV} (ha : args.length = 1) (h : awp ac2 acb (zZ Tryz.prog [.tmp 2] r []) (zS args [])) : PC Tryz.prog 35 args r :=
 zL (X := ac2) mixed Tryz.func35 (c := acb) (by kernel_rfl) (by kernel_rfl) (rs := [.tmp 2]) (by kernel_rfl) (by kernel_rfl) (by rw [ha]; decide) h
noncomputable def VK : Code := (Tryz.f109.body).getD .skip
def Vk : List (Nat × Nf) := [(4, [some 1, none, none, some 1, some 2, some 5, none, none])]
def Vs : List (Nat × List Nat) := []
def KX : Nat → Ann
 | 0 => ⟨[1, 3], [1000, 1001], [], [], [1000, 1001]⟩
 | 1 => ⟨[], [1000, 1001], [], [], [1000, 1001]⟩
 | _ => ⟨[], [], [], [], []⟩
noncomputable abbrev VP : Cx := ⟨Tryz.prog, ⟨id, Vk, Vs⟩, KX⟩
theorem XK {args : List PV} {es es' : List Ent} {r : PV} (ha : args.length = 2) (hl : es'.length = es.length) (he : (es'.all fun e => e.wT es.length) = true) (h : awp VP VK (zZ Tryz.prog [] r es') (zS args es)) : BD Tryz.prog 109 args es r es' :=
 apr (X := VP) mixed Tryz.func109 (c := VK) (by kernel_rfl) (rs := []) (by kernel_rfl) (by kernel_rfl) (by rw [ha]; decide) hl (fun e h => List.all_eq_true.1 he e h) h
noncomputable def Xz : Code := (Tryz.f110.body).getD .skip
def JK : List (Nat × Nf) := [(24, [some 1, none, none]), (59, [some 1, none, none]), (65, [some 1, none, none]), (71, [some 1, none, none])]
def Js : List (Nat × List Nat) := []
def JD : Nat → Ann
 | 0 => ⟨[1, 2, 4], [2, 4], [.nrm 4 [some 1, none, none]], [], [2, 4]⟩
 | 1 => ⟨[1, 2, 4, 23], [2, 4], [], [], [2, 4]⟩
 | 2 => ⟨[4, 5], [4], [], [], [4]⟩
 | 3 => ⟨[1, 2, 4, 6], [2, 4, 6, 342], [.VV 6 0 342 1], [], [2, 4, 6, 342]⟩
 | 4 => ⟨[1, 2, 4, 6, 26, 27, 28], [2, 4, 6, 342], [], [], [2, 4, 6, 342]⟩
 | 5 => ⟨[1, 2, 4, 6, 26, 27, 28, 29], [2, 4, 6, 342], [], [], [2, 4, 6, 342]⟩
 | 6 => ⟨[1, 2, 4, 6, 7, 8, 26, 27, 28], [2, 4, 6, 8, 342], [], [], [2, 4, 6, 8, 342]⟩
 | 7 => ⟨[1, 2, 4, 6, 7, 8, 9, 26, 27, 28], [2, 4, 6, 8, 342], [], [], [2, 4, 6, 8, 342]⟩
 | 8 => ⟨[1, 2, 4, 6, 8], [2, 4, 6, 8, 342], [], [], [2, 4, 6, 8, 342]⟩
 | 9 => ⟨[1, 2, 4, 6], [2, 4, 6, 342], [], [], [2, 4, 6, 342]⟩
 | 10 => ⟨[1, 2, 4, 6, 7, 8, 9, 26, 27, 28, 44], [2, 4, 6, 8, 342], [], [], [2, 4, 6, 8, 342]⟩
 | 11 => ⟨[1, 2, 4, 6, 26, 27, 28], [2, 4, 6, 342], [], [], [2, 4, 6, 342]⟩
 | 12 => ⟨[1, 2, 4, 6, 7, 8, 51], [2, 4, 6, 8, 342], [], [], [2, 4, 6, 8, 342]⟩
 | 13 => ⟨[4, 6], [4, 6, 342], [], [], [4, 6, 342]⟩
 | 14 => ⟨[4, 5], [4], [], [], [4]⟩
 | 15 => ⟨[1, 2, 4, 6, 7, 8, 60], [2, 4, 6, 8, 342], [], [], [2, 4, 6, 8, 342]⟩
 | 16 => ⟨[4, 6], [4, 6, 342], [], [], [4, 6, 342]⟩
 | 17 => ⟨[4, 5], [4], [], [], [4]⟩
 | 18 => ⟨[1, 2, 4, 6, 26, 27, 28], [2, 4, 6, 342], [], [], [2, 4, 6, 342]⟩
 | 19 => ⟨[4, 6], [4, 6, 342], [], [], [4, 6, 342]⟩
 | 20 => ⟨[4, 5], [4], [], [], [4]⟩
 | _ => ⟨[], [], [], [], []⟩
noncomputable abbrev XD : Cx := ⟨Tryz.prog, ⟨id, JK, Js⟩, JD⟩
theorem aam {args : List PV} {r : PV} (ha : args.length = 2) (h : awp XD Xz (zZ Tryz.prog [.cell 4 153, .tmp 5] r []) (zS args [])) : PC Tryz.prog 110 args r :=
 zL (X := XD) mixed Tryz.func110 (c := Xz) (by kernel_rfl) (by kernel_rfl) (rs := [.cell 4 153, .tmp 5]) (by kernel_rfl) (by kernel_rfl) (by rw [ha]; decide) h
noncomputable def Vi : Code := (Tryz.f111.body).getD .skip
def WT : List (Nat × Nf) := []
def W9 : List (Nat × List Nat) := []
def Kn : Nat → Ann
 | 0 => ⟨[0, 1], [], [], [], []⟩
 | 1 => ⟨[0, 1, 10], [], [], [], []⟩
 | 2 => ⟨[4], [], [], [], []⟩
 | 3 => ⟨[0, 1, 12, 13], [], [], [], []⟩
 | 4 => ⟨[0, 1, 12, 13, 14], [], [], [], []⟩
 | 5 => ⟨[0, 1, 5, 12, 13], [], [], [], []⟩
 | 6 => ⟨[0, 1, 12, 13, 24], [], [], [], []⟩
 | 7 => ⟨[4], [], [], [], []⟩
 | 8 => ⟨[0, 1, 12, 13], [], [], [], []⟩
 | 9 => ⟨[4], [], [], [], []⟩
 | _ => ⟨[], [], [], [], []⟩
noncomputable abbrev K3 : Cx := ⟨Tryz.prog, ⟨id, WT, W9⟩, Kn⟩
theorem Xv {args : List PV} {r : PV} (ha : args.length = 2) (h : awp K3 Vi (zZ Tryz.prog [.tmp 4] r []) (zS args [])) : PC Tryz.prog 111 args r :=
 zL (X := K3) mixed Tryz.func111 (c := Vi) (by kernel_rfl) (by kernel_rfl) (rs := [.tmp 4]) (by kernel_rfl) (by kernel_rfl) (by rw [ha]; decide) h
noncomputable def abq : Code := (Tryz.f75.body).getD .skip
def YR : List (Nat × Nf) := [(28, [none, none, some 1, some 2, some 5]), (38, [none, none, some 1, some 2, some 5])]
def YZ : List (Nat × List Nat) := []
def Y3 : Nat → Ann
 | 0 => ⟨[1, 2, 4], [2, 4], [.nrm 4 [none, none, some 1, some 2, some 5]], [], [2, 4]⟩
 | 1 => ⟨[2, 4, 8, 9, 10], [2, 4], [], [], [2, 4]⟩
 | 2 => ⟨[2, 4, 8, 9, 10, 11], [2, 4], [], [], [2, 4]⟩
 | 3 => ⟨[2, 4, 7, 8, 9, 10], [2, 4], [], [], [2, 4]⟩
 | 4 => ⟨[2, 4, 7, 8, 9, 10, 27], [2, 4], [], [], [2, 4]⟩
 | 5 => ⟨[4, 5], [4], [], [], [4]⟩
 | 6 => ⟨[2, 4, 8, 9, 10], [2, 4], [], [], [2, 4]⟩
 | 7 => ⟨[2, 4, 8, 9, 10], [2, 4], [], [], [2, 4]⟩
 | 8 => ⟨[2, 4, 37], [2, 4], [], [], [2, 4]⟩
 | 9 => ⟨[4, 5], [4], [], [], [4]⟩
 | 10 => ⟨[4, 5], [4], [], [], [4]⟩
 | _ => ⟨[], [], [], [], []⟩
noncomputable abbrev abl : Cx := ⟨Tryz.prog, ⟨id, YR, YZ⟩, Y3⟩
theorem acg {args : List PV} {r : PV} (ha : args.length = 2) (h : awp abl abq (zZ Tryz.prog [.cell 4 28, .tmp 5] r []) (zS args [])) : PC Tryz.prog 75 args r :=
 zL (X := abl) mixed Tryz.func75 (c := abq) (by kernel_rfl) (by kernel_rfl) (rs := [.cell 4 28, .tmp 5]) (by kernel_rfl) (by kernel_rfl) (by rw [ha]; decide) h
noncomputable def abd : Code := (Tryz.f112.body).getD .skip
def Y4 : List (Nat × Nf) := []
def YM : List (Nat × List Nat) := []
def YU : Nat → Ann
 | 0 => ⟨[1, 2], [2], [], [], [2]⟩
 | 1 => ⟨[1, 2, 7], [2], [], [], [2]⟩
 | 2 => ⟨[1, 2, 7, 18], [2], [], [], [2]⟩
 | 3 => ⟨[4, 5], [], [], [], []⟩
 | 4 => ⟨[1, 2, 8], [2], [], [], [2]⟩
 | 5 => ⟨[2, 8, 20, 21, 22], [2], [], [], [2]⟩
 | 6 => ⟨[2, 8, 20, 21, 22, 23], [2], [], [], [2]⟩
 | 7 => ⟨[2, 8, 10, 20, 21, 22], [2], [], [], [2]⟩
 | 8 => ⟨[2, 8, 10, 20, 21, 22], [2], [], [], [2]⟩
 | 9 => ⟨[2, 8, 20, 21, 22], [2], [], [], [2]⟩
 | 10 => ⟨[2, 8, 20, 21, 22], [2], [], [], [2]⟩
 | 11 => ⟨[4, 5], [], [], [], []⟩
 | _ => ⟨[], [], [], [], []⟩
noncomputable abbrev aby : Cx := ⟨Tryz.prog, ⟨id, Y4, YM⟩, YU⟩
theorem acX {args : List PV} {r : PV} (ha : args.length = 2) (h : awp aby abd (zZ Tryz.prog [.tmp 4, .tmp 5] r []) (zS args [])) : PC Tryz.prog 112 args r :=
 zL (X := aby) mixed Tryz.func112 (c := abd) (by kernel_rfl) (by kernel_rfl) (rs := [.tmp 4, .tmp 5]) (by kernel_rfl) (by kernel_rfl) (by rw [ha]; decide) h
def X0 : List (Nat × Nf) := []
def YX : List (Nat × List Nat) := [(31, [1001]), (32, [1000]), (42, [1001]), (43, [1000]), (71, [8]), (72, [8]), (73, [12]), (81, [1000]), (500006, [1001]), (500007, [1000])]
def Yq : Nat → Ann
 | 0 => ⟨[1, 2, 3, 6, 7], [3, 6, 7], [.nrm 6 [some 1, none, none, some 1, some 2, some 5, none, none]], [], [3, 6, 7]⟩
 | 1 => ⟨[1, 2, 3, 6, 7], [], [], [], []⟩
 | 2 => ⟨[1, 2, 3, 6, 7, 21], [3, 1000, 1001], [], [], [3, 1000, 1001]⟩
 | 3 => ⟨[6, 7], [1000, 1001], [], [], [1000, 1001]⟩
 | 4 => ⟨[1, 2, 3, 6, 7, 8], [3, 8, 1000, 1001], [], [], [3, 8, 1000, 1001]⟩
 | 5 => ⟨[1, 2, 3, 6, 7, 8, 30], [3, 8, 1000, 1001], [], [], [3, 8, 1000, 1001]⟩
 | 6 => ⟨[6, 7], [1000, 1001], [], [], [1000, 1001]⟩
 | 7 => ⟨[1, 2, 3, 6, 7, 8, 9], [3, 8, 9, 1000, 1001], [], [], [3, 8, 9, 1000, 1001]⟩
 | 8 => ⟨[1, 2, 3, 6, 7, 8, 9, 39], [3, 8, 9, 1000, 1001], [], [], [3, 8, 9, 1000, 1001]⟩
 | 9 => ⟨[6, 7], [1000, 1001], [], [], [1000, 1001]⟩
 | 10 => ⟨[1, 2, 3, 6, 7, 8, 9, 44], [3, 8, 9, 1000, 1001], [], [], [3, 8, 9, 1000, 1001]⟩
 | 11 => ⟨[6, 7], [1000, 1001], [], [], [1000, 1001]⟩
 | 12 => ⟨[1, 2, 3, 6, 7, 8, 49], [3, 8, 1000, 1001], [], [], [3, 8, 1000, 1001]⟩
 | 13 => ⟨[6, 7], [1000, 1001], [], [], [1000, 1001]⟩
 | 14 => ⟨[1, 2, 3, 6, 7, 8, 10], [3, 8, 1000, 1001], [], [], [3, 8, 1000, 1001]⟩
 | 15 => ⟨[1, 2, 6, 7, 8, 10, 12], [8, 12, 1000, 1001], [], [], [8, 12, 1000, 1001]⟩
 | 16 => ⟨[6, 7], [1000, 1001], [], [], [1000, 1001]⟩
 | _ => ⟨[], [], [], [], []⟩
noncomputable abbrev Jl : Cx := ⟨Tryz.prog, ⟨id, X0, YX⟩, Yq⟩
noncomputable def Yn : Code := match Tryz.f69.body with | some (.seq c _) => c | _ => .skip
noncomputable def YA : Code := match Tryz.f69.body with | some (.seq _ (.seq _ c)) => c | _ => .skip
noncomputable def af4 : Oper := match Tryz.f69.body with | some (.seq _ (.seq (.region _ ops _) _)) => (ops[0]?).getD ⟨none, .move (.tmp 0), 0, "", #[], none⟩ | _ => ⟨none, .move (.tmp 0), 0, "", #[], none⟩
noncomputable def ahL : Oper := match Tryz.f69.body with | some (.seq _ (.seq (.region _ ops _) _)) => (ops[1]?).getD ⟨none, .move (.tmp 0), 0, "", #[], none⟩ | _ => ⟨none, .move (.tmp 0), 0, "", #[], none⟩
theorem adv {args : List PV} {r : PV} (ha : args.length = 3) (h : awp Jl Yn (midD Jl 109 13 7 6 YA [.cell 6 115, .cell 7 33] r) (zS args [])) : PC Tryz.prog 69 args r :=
 anD (X := Jl) (id := 1) (o1 := af4) (o2 := ahL) (c0 := Yn) (c1 := YA) mixed Tryz.func69 (by kernel_rfl) ⟨by rfl, by rfl, by rfl⟩ ⟨⟨_, by rfl⟩, by rfl, by rfl⟩ (by kernel_rfl) ⟨_, Tryz.func109, by kernel_rfl, by kernel_rfl⟩ (rs := [.cell 6 115, .cell 7 33]) (by kernel_rfl) (by kernel_rfl) (by kernel_rfl) (by rw [ha]; decide) (by decide) h
noncomputable def aeU : Code := (Tryz.f70.body).getD .skip
def adb : List (Nat × Nf) := []
def acH : List (Nat × List Nat) := []
def acL : Nat → Ann
 | 0 => ⟨[0], [], [], [], []⟩
 | 1 => ⟨[0, 3], [3], [.thaw 3 3 5], [], [3]⟩
 | 2 => ⟨[3, 7, 8, 9], [3], [], [], [3]⟩
 | 3 => ⟨[3, 7, 8, 9, 10], [3], [], [], [3]⟩
 | 4 => ⟨[3, 5, 7, 8, 9], [3, 5], [], [], [3, 5]⟩
 | 5 => ⟨[3, 5, 6, 7, 8, 9], [3, 5], [], [], [3, 5]⟩
 | 6 => ⟨[3, 7, 8, 9], [3], [], [], [3]⟩
 | 7 => ⟨[3, 5, 6, 7, 8, 9, 20], [3, 5], [], [], [3, 5]⟩
 | 8 => ⟨[3, 5, 6, 7, 8, 9, 28], [3, 5], [], [], [3, 5]⟩
 | 9 => ⟨[3, 5, 6, 7, 8, 9], [3, 5], [], [], [3, 5]⟩
 | 10 => ⟨[3, 7, 8, 9], [3], [], [], [3]⟩
 | 11 => ⟨[3, 7, 8, 9], [3], [], [], [3]⟩
 | 12 => ⟨[2], [3], [], [.ren 3 2], [2, 3]⟩
 | _ => ⟨[], [], [], [], []⟩
noncomputable abbrev aeJ : Cx := ⟨Tryz.prog, ⟨id, adb, acH⟩, acL⟩
theorem afA {args : List PV} {r : PV} (ha : args.length = 1) (h : awp aeJ aeU (zZ Tryz.prog [.tmp 2] r []) (zS args [])) : PC Tryz.prog 70 args r :=
 zL (X := aeJ) mixed Tryz.func70 (c := aeU) (by kernel_rfl) (by kernel_rfl) (rs := [.tmp 2]) (by kernel_rfl) (by kernel_rfl) (by rw [ha]; decide) h
noncomputable def ZK : Code := (Tryz.f114.body).getD .skip
def Ze : List (Nat × Nf) := []
def y7 : List (Nat × List Nat) := []
def yZ : Nat → Ann
 | 0 => ⟨[0], [5], [], [], [5]⟩
 | 1 => ⟨[0, 4], [5], [], [], [5]⟩
 | 2 => ⟨[2], [5], [], [], [5]⟩
 | 3 => ⟨[2], [5], [], [], [5]⟩
 | _ => ⟨[], [], [], [], []⟩
noncomputable abbrev Zp : Cx := ⟨Tryz.prog, ⟨id, Ze, y7⟩, yZ⟩
theorem KL {args : List PV} {r : PV} (ha : args.length = 1) (h : awp Zp ZK (zZ Tryz.prog [.tmp 2] r []) (zS args [])) : PC Tryz.prog 114 args r :=
 zL (X := Zp) mixed Tryz.func114 (c := ZK) (by kernel_rfl) (by kernel_rfl) (rs := [.tmp 2]) (by kernel_rfl) (by kernel_rfl) (by rw [ha]; decide) h
noncomputable def aaD : Code := (Tryz.f71.body).getD .skip
def XZ : List (Nat × Nf) := []
def XX : List (Nat × List Nat) := [(44, []), (45, []), (48, []), (49, []), (75, []), (76, []), (79, []), (80, []), (81, [11]), (82, [9]), (83, [9]), (500081, [11]), (500083, [9])]
def X8 : Nat → Ann
 | 0 => ⟨[0, 1], [], [], [], []⟩
 | 1 => ⟨[0, 1, 19], [], [], [], []⟩
 | 2 => ⟨[4, 5, 6], [], [.nrm 4 [some 5], .nrm 5 [some 5]], [], []⟩
 | 3 => ⟨[0, 1, 7], [], [], [], []⟩
 | 4 => ⟨[0, 1, 7, 32], [], [], [], []⟩
 | 5 => ⟨[0, 1, 7], [], [], [], []⟩
 | 6 => ⟨[0, 1, 7], [], [], [], []⟩
 | 7 => ⟨[0, 1, 7, 8, 9], [45, 49], [], [.ren 45 8, .ren 49 9], [8, 9, 45, 49]⟩
 | 8 => ⟨[0, 1, 7, 8, 9, 50], [8, 9], [], [], [8, 9]⟩
 | 9 => ⟨[4, 5, 6], [8, 9], [], [.ren 8 4, .ren 9 5], [4, 5, 8, 9]⟩
 | 10 => ⟨[0, 1, 7, 8, 9, 55], [8, 9], [], [], [8, 9]⟩
 | 11 => ⟨[4, 5, 6], [], [.nrm 4 [some 5], .nrm 5 [some 5]], [], []⟩
 | 12 => ⟨[0, 1, 7, 8, 9, 10], [8, 9], [], [], [8, 9]⟩
 | 13 => ⟨[1, 8, 9, 10, 11], [8, 9, 11], [], [], [8, 9, 11]⟩
 | 14 => ⟨[8, 9, 11], [8, 9, 11], [], [], [8, 9, 11]⟩
 | 15 => ⟨[4, 5, 6], [8, 9], [], [.ren 8 4, .ren 9 5], [4, 5, 8, 9]⟩
 | _ => ⟨[], [], [], [], []⟩
noncomputable abbrev aaZ : Cx := ⟨Tryz.prog, ⟨id, XZ, XX⟩, X8⟩
theorem adl {args : List PV} {r : PV} (ha : args.length = 2) (h : awp aaZ aaD (zZ Tryz.prog [.tmp 4, .tmp 5, .tmp 6] r []) (zS args [])) : PC Tryz.prog 71 args r :=
 zL (X := aaZ) mixed Tryz.func71 (c := aaD) (by kernel_rfl) (by kernel_rfl) (rs := [.tmp 4, .tmp 5, .tmp 6]) (by kernel_rfl) (by kernel_rfl) (by rw [ha]; decide) h
noncomputable def yS : Code := (Tryz.f72.body).getD .skip
def yL : List (Nat × Nf) := []
def yM : List (Nat × List Nat) := []
def yJ : Nat → Ann
 | 0 => ⟨[0], [], [], [], []⟩
 | 1 => ⟨[0, 3], [], [], [], []⟩
 | 2 => ⟨[0, 3, 9, 10, 11], [], [], [], []⟩
 | 3 => ⟨[0, 3, 9, 10, 11, 12], [], [], [], []⟩
 | 4 => ⟨[0, 3, 5, 9, 10, 11], [], [], [], []⟩
 | 5 => ⟨[0, 3, 9, 10, 11], [], [], [], []⟩
 | 6 => ⟨[0, 3, 9, 10, 11, 20], [], [], [], []⟩
 | 7 => ⟨[0, 3, 9, 10, 11], [], [], [], []⟩
 | 8 => ⟨[0, 3, 9, 10, 11], [], [], [], []⟩
 | 9 => ⟨[0, 6], [24], [], [.ren 24 6], [6, 24]⟩
 | 10 => ⟨[6, 25, 26, 27], [6], [], [], [6]⟩
 | 11 => ⟨[6, 25, 26, 27, 28], [6], [], [], [6]⟩
 | 12 => ⟨[6, 8, 25, 26, 27], [6], [], [], [6]⟩
 | 13 => ⟨[6, 25, 26, 27], [6], [], [], [6]⟩
 | 14 => ⟨[6, 25, 26, 27], [6], [], [], [6]⟩
 | 15 => ⟨[2], [6], [], [.ren 6 2], [2, 6]⟩
 | _ => ⟨[], [], [], [], []⟩
noncomputable abbrev Zg : Cx := ⟨Tryz.prog, ⟨id, yL, yM⟩, yJ⟩
theorem WO {args : List PV} {r : PV} (ha : args.length = 1) (h : awp Zg yS (zZ Tryz.prog [.tmp 2] r []) (zS args [])) : PC Tryz.prog 72 args r :=
 zL (X := Zg) mixed Tryz.func72 (c := yS) (by kernel_rfl) (by kernel_rfl) (rs := [.tmp 2]) (by kernel_rfl) (by kernel_rfl) (by rw [ha]; decide) h
noncomputable def adx : Code := (Tryz.f73.body).getD .skip
def aa1 : List (Nat × Nf) := [(18, [none, none, some 1, some 2, some 5]), (48, [none, none, none, none, some 5])]
def abn : List (Nat × List Nat) := []
def aa3 : Nat → Ann
 | 0 => ⟨[1, 3, 5, 6], [3, 5, 6], [.nrm 6 [none, none, some 1, some 2, some 5]], [], [3, 5, 6]⟩
 | 1 => ⟨[1, 3, 5, 6, 9], [3, 5, 6], [], [], [3, 5, 6]⟩
 | 2 => ⟨[1, 3, 5, 6, 9, 17], [3, 5, 6], [], [], [3, 5, 6]⟩
 | 3 => ⟨[6, 7], [6], [], [], [6]⟩
 | 4 => ⟨[1, 3, 5, 6, 22], [3, 5, 6], [], [], [3, 5, 6]⟩
 | 5 => ⟨[6, 7], [6], [], [], [6]⟩
 | 6 => ⟨[1, 3, 5, 6], [3, 5, 6, 26], [], [.ren 26 325], [3, 5, 6, 26, 325]⟩
 | 7 => ⟨[3, 6], [3, 6, 325], [], [], [3, 6, 325]⟩
 | 8 => ⟨[6, 7], [6], [], [], [6]⟩
 | _ => ⟨[], [], [], [], []⟩
noncomputable abbrev adF : Cx := ⟨Tryz.prog, ⟨id, aa1, abn⟩, aa3⟩
theorem ad5 {args : List PV} {r : PV} (ha : args.length = 3) (h : awp adF adx (zZ Tryz.prog [.cell 6 28, .tmp 7] r []) (zS args [])) : PC Tryz.prog 73 args r :=
 zL (X := adF) mixed Tryz.func73 (c := adx) (by kernel_rfl) (by kernel_rfl) (rs := [.cell 6 28, .tmp 7]) (by kernel_rfl) (by kernel_rfl) (by rw [ha]; decide) h
noncomputable def afi : Code := (Tryz.f36.body).getD .skip
def acm : List (Nat × Nf) := [(33, [none, none, some 1, some 2, none]), (37, [none, none, some 1, some 2, some 5]), (40, [none, none, some 1, some 2, some 5]), (83, [none, none, some 1, some 2, some 5])]
def acE : List (Nat × List Nat) := []
def acD : Nat → Ann
 | 0 => ⟨[1, 2, 3, 4, 8], [4, 8], [.nrm 8 [none, none, some 1, some 2, some 5]], [], [4, 8]⟩
 | 1 => ⟨[3, 4, 8, 10, 11], [4, 8, 10], [], [], [4, 8, 10]⟩
 | 2 => ⟨[3, 4, 8, 10, 11, 36], [4, 8, 10], [], [], [4, 8, 10]⟩
 | 3 => ⟨[8, 9], [8], [], [], [8]⟩
 | 4 => ⟨[3, 4, 8, 10, 11, 39], [4, 8, 10], [], [], [4, 8, 10]⟩
 | 5 => ⟨[8, 9], [8], [], [], [8]⟩
 | 6 => ⟨[3, 4, 8, 10, 12], [4, 8, 10], [], [], [4, 8, 10]⟩
 | 7 => ⟨[3, 4, 8, 10, 12, 16], [4, 8, 10], [], [], [4, 8, 10]⟩
 | 8 => ⟨[4, 8, 10], [4, 8, 10], [], [], [4, 8, 10]⟩
 | 9 => ⟨[8, 18], [8, 18], [], [], [8, 18]⟩
 | 10 => ⟨[8, 18, 20], [8, 18], [], [], [8, 18]⟩
 | 11 => ⟨[8, 18, 20, 82], [8, 18], [], [], [8, 18]⟩
 | 12 => ⟨[8, 9], [8], [], [], [8]⟩
 | 13 => ⟨[8, 9], [8], [], [], [8]⟩
 | _ => ⟨[], [], [], [], []⟩
noncomputable abbrev aeR : Cx := ⟨Tryz.prog, ⟨id, acm, acE⟩, acD⟩
theorem afq {args : List PV} {r : PV} (ha : args.length = 4) (h : awp aeR afi (zZ Tryz.prog [.cell 8 28, .tmp 9] r []) (zS args [])) : PC Tryz.prog 36 args r :=
 zL (X := aeR) mixed Tryz.func36 (c := afi) (by kernel_rfl) (by kernel_rfl) (rs := [.cell 8 28, .tmp 9]) (by kernel_rfl) (by kernel_rfl) (by rw [ha]; decide) h
noncomputable def Vg : Code := (Tryz.f116.body).getD .skip
def WZ : List (Nat × Nf) := []
def WW : List (Nat × List Nat) := []
def Km : Nat → Ann
 | 0 => ⟨[0], [5], [], [], [5]⟩
 | 1 => ⟨[0, 4], [5], [], [], [5]⟩
 | 2 => ⟨[2], [5], [], [], [5]⟩
 | 3 => ⟨[2], [5], [], [], [5]⟩
 | _ => ⟨[], [], [], [], []⟩
noncomputable abbrev KQ : Cx := ⟨Tryz.prog, ⟨id, WZ, WW⟩, Km⟩
theorem Xi {args : List PV} {r : PV} (ha : args.length = 1) (h : awp KQ Vg (zZ Tryz.prog [.tmp 2] r []) (zS args [])) : PC Tryz.prog 116 args r :=
 zL (X := KQ) mixed Tryz.func116 (c := Vg) (by kernel_rfl) (by kernel_rfl) (rs := [.tmp 2]) (by kernel_rfl) (by kernel_rfl) (by rw [ha]; decide) h
noncomputable def aaW : Code := (Tryz.f74.body).getD .skip
def Yo : List (Nat × Nf) := []
def YC : List (Nat × List Nat) := [(24, [6]), (25, [6]), (26, []), (27, [6]), (28, [6]), (30, [26, 29])]
def X6 : Nat → Ann
 | 0 => ⟨[1, 2], [2], [], [], [2]⟩
 | 1 => ⟨[1, 2, 10], [2], [], [], [2]⟩
 | 2 => ⟨[4, 5], [], [.nrm 4 [some 1]], [], []⟩
 | 3 => ⟨[2, 6, 7], [2, 6], [], [], [2, 6]⟩
 | 4 => ⟨[2, 6, 23], [2, 6], [], [], [2, 6]⟩
 | 5 => ⟨[4, 5], [], [.nrm 4 [some 1]], [], []⟩
 | 6 => ⟨[2, 8], [2, 26], [], [.ren 26 8], [2, 8, 26]⟩
 | 7 => ⟨[7, 8], [8], [], [], [8]⟩
 | 8 => ⟨[4, 5], [8], [], [.ren 8 4], [4, 8]⟩
 | _ => ⟨[], [], [], [], []⟩
noncomputable abbrev abo : Cx := ⟨Tryz.prog, ⟨id, Yo, YC⟩, X6⟩
theorem acU {args : List PV} {r : PV} (ha : args.length = 2) (h : awp abo aaW (zZ Tryz.prog [.tmp 4, .tmp 5] r []) (zS args [])) : PC Tryz.prog 74 args r :=
 zL (X := abo) mixed Tryz.func74 (c := aaW) (by kernel_rfl) (by kernel_rfl) (rs := [.tmp 4, .tmp 5]) (by kernel_rfl) (by kernel_rfl) (by rw [ha]; decide) h
noncomputable def Y1 : Code := (Tryz.f77.body).getD .skip
def XF : List (Nat × Nf) := []
def XA : List (Nat × List Nat) := []
def XG : Nat → Ann
 | 0 => ⟨[1, 2], [2, 1000], [], [], [2, 1000]⟩
 | 1 => ⟨[3], [1000], [], [], [1000]⟩
 | _ => ⟨[], [], [], [], []⟩
noncomputable abbrev Yd : Cx := ⟨Tryz.prog, ⟨id, XF, XA⟩, XG⟩
theorem abB {args : List PV} {es es' : List Ent} {r : PV} (ha : args.length = 2) (hl : es'.length = es.length) (he : (es'.all fun e => e.wT es.length) = true) (h : awp Yd Y1 (zZ Tryz.prog [.tmp 3] r es') (zS args es)) : BC Tryz.prog 77 args es r es' :=
 QF (X := Yd) mixed Tryz.func77 (c := Y1) (by kernel_rfl) (by kernel_rfl) (rs := [.tmp 3]) (by kernel_rfl) (by kernel_rfl) (by rw [ha]; decide) hl (fun e h => List.all_eq_true.1 he e h) h
noncomputable def xq : Code := (Tryz.f76.body).getD .skip
def j4 : List (Nat × Nf) := []
def xh : List (Nat × List Nat) := []
def j5 : Nat → Ann
 | 0 => ⟨[0, 1], [1000], [], [], [1000]⟩
 | 1 => ⟨[0, 1, 7, 8], [1000], [], [], [1000]⟩
 | 2 => ⟨[0, 1, 7, 8, 9], [1000], [], [], [1000]⟩
 | 3 => ⟨[0, 1, 5, 7, 8], [1000], [], [], [1000]⟩
 | 4 => ⟨[0, 1, 5, 7, 8, 16], [1000], [], [], [1000]⟩
 | 5 => ⟨[4], [1000], [], [], [1000]⟩
 | 6 => ⟨[0, 1, 7, 8], [1000], [], [], [1000]⟩
 | 7 => ⟨[4], [1000], [], [], [1000]⟩
 | _ => ⟨[], [], [], [], []⟩
noncomputable abbrev xw : Cx := ⟨Tryz.prog, ⟨id, j4, xh⟩, j5⟩
theorem ZN {args : List PV} {es es' : List Ent} {r : PV} (ha : args.length = 2) (hl : es'.length = es.length) (he : (es'.all fun e => e.wT es.length) = true) (h : awp xw xq (zZ Tryz.prog [.tmp 4] r es') (zS args es)) : BC Tryz.prog 76 args es r es' :=
 QF (X := xw) mixed Tryz.func76 (c := xq) (by kernel_rfl) (by kernel_rfl) (rs := [.tmp 4]) (by kernel_rfl) (by kernel_rfl) (by rw [ha]; decide) hl (fun e h => List.all_eq_true.1 he e h) h
noncomputable def ZG : Code := (Tryz.f78.body).getD .skip
def Zc : List (Nat × Nf) := []
def Zb : List (Nat × List Nat) := []
def y9 : Nat → Ann
 | 0 => ⟨[0], [5], [], [], [5]⟩
 | 1 => ⟨[0, 4], [5], [], [], [5]⟩
 | 2 => ⟨[2], [5], [], [], [5]⟩
 | 3 => ⟨[2], [5], [], [], [5]⟩
 | _ => ⟨[], [], [], [], []⟩
noncomputable abbrev Zv : Cx := ⟨Tryz.prog, ⟨id, Zc, Zb⟩, y9⟩
theorem KE {args : List PV} {r : PV} (ha : args.length = 1) (h : awp Zv ZG (zZ Tryz.prog [.tmp 2] r []) (zS args [])) : PC Tryz.prog 78 args r :=
 zL (X := Zv) mixed Tryz.func78 (c := ZG) (by kernel_rfl) (by kernel_rfl) (rs := [.tmp 2]) (by kernel_rfl) (by kernel_rfl) (by rw [ha]; decide) h
noncomputable def ahG : Code := (Tryz.f37.body).getD .skip
def afd : List (Nat × Nf) := [(24, [none, none, some 1, some 2, some 5]), (37, [none, none, some 1, some 2, some 5]), (58, [none, none, none, some 2, none])]
def afc : List (Nat × List Nat) := []
def aff : Nat → Ann
 | 0 => ⟨[2, 3, 4], [2, 3, 4], [.nrm 4 [none, none, some 1, some 2, some 5]], [], [2, 3, 4]⟩
 | 1 => ⟨[2, 3, 4, 7, 8], [2, 3, 4], [], [], [2, 3, 4]⟩
 | 2 => ⟨[2, 3, 4, 7, 23], [2, 3, 4], [], [], [2, 3, 4]⟩
 | 3 => ⟨[4, 5, 6], [4], [], [], [4]⟩
 | 4 => ⟨[2, 3, 4, 7, 9], [2, 3, 4, 9], [], [], [2, 3, 4, 9]⟩
 | 5 => ⟨[2, 3, 4, 7, 9, 11], [2, 3, 4, 9], [], [], [2, 3, 4, 9]⟩
 | 6 => ⟨[2, 3, 4, 7, 9, 11, 36], [2, 3, 4, 9], [], [], [2, 3, 4, 9]⟩
 | 7 => ⟨[4, 5, 6], [4], [], [], [4]⟩
 | 8 => ⟨[2, 3, 4, 7, 9, 11, 12], [2, 3, 4, 9], [], [], [2, 3, 4, 9]⟩
 | 9 => ⟨[2, 3, 4, 7, 9, 11, 12], [2, 3, 4, 9, 46], [], [.ren 46 366], [2, 3, 4, 9, 46, 366]⟩
 | 10 => ⟨[2, 4, 7, 9, 12], [2, 4, 9, 366], [], [], [2, 4, 9, 366]⟩
 | 11 => ⟨[4, 12, 13, 14], [4, 13], [], [], [4, 13]⟩
 | 12 => ⟨[4, 5, 6], [4], [], [], [4]⟩
 | _ => ⟨[], [], [], [], []⟩
noncomputable abbrev ahh : Cx := ⟨Tryz.prog, ⟨id, afd, afc⟩, aff⟩
theorem ahU {args : List PV} {r : PV} (ha : args.length = 2) (h : awp ahh ahG (zZ Tryz.prog [.cell 4 28, .tmp 5, .tmp 6] r []) (zS args [])) : PC Tryz.prog 37 args r :=
 zL (X := ahh) mixed Tryz.func37 (c := ahG) (by kernel_rfl) (by kernel_rfl) (rs := [.cell 4 28, .tmp 5, .tmp 6]) (by kernel_rfl) (by kernel_rfl) (by rw [ha]; decide) h
noncomputable def Qu : Code := (Tryz.f140.body).getD .skip
def Qh : List (Nat × Nf) := []
def ZW : List (Nat × List Nat) := []
def ZR : Nat → Ann
 | 0 => ⟨[0, 1, 2, 6], [1000, 1001], [], [], [1000, 1001]⟩
 | 1 => ⟨[0, 1, 2, 6, 35], [1000, 1001], [], [], [1000, 1001]⟩
 | 2 => ⟨[], [1000, 1001], [], [], [1000, 1001]⟩
 | 3 => ⟨[], [1000, 1001], [], [], [1000, 1001]⟩
 | _ => ⟨[], [], [], [], []⟩
noncomputable abbrev Qw : Cx := ⟨Tryz.prog, ⟨id, Qh, ZW⟩, ZR⟩
theorem Vz {args : List PV} {es es' : List Ent} {r : PV} (ha : args.length = 3) (hl : es'.length = es.length) (he : (es'.all fun e => e.wT es.length) = true) (h : awp Qw Qu (zZ Tryz.prog [] r es') (zS args es)) : BC Tryz.prog 140 args es r es' :=
 QF (X := Qw) mixed Tryz.func140 (c := Qu) (by kernel_rfl) (by kernel_rfl) (rs := []) (by kernel_rfl) (by kernel_rfl) (by rw [ha]; decide) hl (fun e h => List.all_eq_true.1 he e h) h
noncomputable def Zz : Code := (Tryz.f141.body).getD .skip
def yT : List (Nat × Nf) := []
def y5 : List (Nat × List Nat) := []
def yY : Nat → Ann
 | 0 => ⟨[0, 1, 2, 3, 4, 8], [8, 1000, 1001], [.nrm 8 [none, none, some 1, some 2, some 5]], [], [8, 1000, 1001]⟩
 | 1 => ⟨[8], [8, 1000, 1001], [.nrm 8 [none, none, none, some 2, some 5]], [], [8, 1000, 1001]⟩
 | _ => ⟨[], [], [], [], []⟩
noncomputable abbrev Zu : Cx := ⟨Tryz.prog, ⟨id, yT, y5⟩, yY⟩
theorem KI {args : List PV} {es es' : List Ent} {r : PV} (ha : args.length = 5) (hl : es'.length = es.length) (he : (es'.all fun e => e.wT es.length) = true) (h : awp Zu Zz (zZ Tryz.prog [.cell 8 28] r es') (zS args es)) : BC Tryz.prog 141 args es r es' :=
 QF (X := Zu) mixed Tryz.func141 (c := Zz) (by kernel_rfl) (by kernel_rfl) (rs := [.cell 8 28]) (by kernel_rfl) (by kernel_rfl) (by rw [ha]; decide) hl (fun e h => List.all_eq_true.1 he e h) h
noncomputable def Qv : Code := (Tryz.f117.body).getD .skip
def Ql : List (Nat × Nf) := []
def Qb : List (Nat × List Nat) := [(69, [4]), (70, [4]), (71, [4, 7, 999999]), (76, [4, 7, 999999]), (79, [7]), (81, [4]), (82, [4]), (83, [4, 7, 999999])]
def Z8 : Nat → Ann
 | 0 => ⟨[0, 2, 4], [4, 1000, 1001], [], [], [4, 1000, 1001]⟩
 | 1 => ⟨[0, 2, 4, 7], [4, 7, 1000, 1001], [], [], [4, 7, 1000, 1001]⟩
 | 2 => ⟨[0, 2, 4, 7, 8], [4, 7, 1000, 1001], [], [], [4, 7, 1000, 1001]⟩
 | 3 => ⟨[0, 2, 4, 7, 8, 9], [4, 7, 1000, 1001], [], [], [4, 7, 1000, 1001]⟩
 | 4 => ⟨[0, 2, 4, 7, 8, 9, 10, 11], [4, 7, 1000, 1001], [], [], [4, 7, 1000, 1001]⟩
 | 5 => ⟨[0, 2, 4, 7, 8, 9, 10, 55], [4, 7, 1000, 1001], [], [], [4, 7, 1000, 1001]⟩
 | 6 => ⟨[6], [57, 1000, 1001], [], [.ren 57 6], [6, 57, 1000, 1001]⟩
 | 7 => ⟨[4, 7, 8, 9, 10], [4, 7, 1000, 1001], [], [], [4, 7, 1000, 1001]⟩
 | 8 => ⟨[4, 7, 8, 9, 10, 12], [4, 7, 1000, 1001], [], [], [4, 7, 1000, 1001]⟩
 | 9 => ⟨[6], [84, 1000, 1001], [], [.ren 84 6], [6, 84, 1000, 1001]⟩
 | _ => ⟨[], [], [], [], []⟩
noncomputable abbrev Qx : Cx := ⟨Tryz.prog, ⟨id, Ql, Qb⟩, Z8⟩
theorem VC {args : List PV} {es es' : List Ent} {r : PV} (ha : args.length = 3) (hl : es'.length = es.length) (he : (es'.all fun e => e.wT es.length) = true) (h : awp Qx Qv (zZ Tryz.prog [.tmp 6] r es') (zS args es)) : BC Tryz.prog 117 args es r es' :=
 QF (X := Qx) mixed Tryz.func117 (c := Qv) (by kernel_rfl) (by kernel_rfl) (rs := [.tmp 6]) (by kernel_rfl) (by kernel_rfl) (by rw [ha]; decide) hl (fun e h => List.all_eq_true.1 he e h) h
noncomputable def Qs : Code := (Tryz.f79.body).getD .skip
def Qk : List (Nat × Nf) := []
def Qf : List (Nat × List Nat) := []
def Z4 : Nat → Ann
 | 0 => ⟨[0, 1, 2], [1000, 1001], [], [], [1000, 1001]⟩
 | 1 => ⟨[0, 1, 2, 7], [7, 1000, 1001], [.thaw 7 7 5], [], [7, 1000, 1001]⟩
 | 2 => ⟨[0, 2, 7, 11, 12, 13], [7, 1000, 1001], [], [], [7, 1000, 1001]⟩
 | 3 => ⟨[0, 2, 7, 11, 12, 13, 14], [7, 1000, 1001], [], [], [7, 1000, 1001]⟩
 | 4 => ⟨[0, 2, 7, 9, 11, 12, 13], [7, 9, 1000, 1001], [], [], [7, 9, 1000, 1001]⟩
 | 5 => ⟨[0, 2, 7, 9, 10, 11, 12, 13], [7, 9, 1000, 1001], [], [], [7, 9, 1000, 1001]⟩
 | 6 => ⟨[0, 2, 7, 9, 10, 11, 12, 13, 21], [7, 9, 1000, 1001], [], [], [7, 9, 1000, 1001]⟩
 | 7 => ⟨[0, 2, 7, 10, 11, 12, 13], [7, 1000, 1001], [], [], [7, 1000, 1001]⟩
 | 8 => ⟨[0, 2, 7, 9, 10, 11, 12, 13], [7, 9, 1000, 1001], [], [], [7, 9, 1000, 1001]⟩
 | 9 => ⟨[0, 2, 7, 10, 11, 12, 13], [7, 1000, 1001], [], [], [7, 1000, 1001]⟩
 | 10 => ⟨[0, 2, 7, 11, 12, 13], [7, 1000, 1001], [], [], [7, 1000, 1001]⟩
 | 11 => ⟨[0, 2, 7, 11, 12, 13], [7, 1000, 1001], [], [], [7, 1000, 1001]⟩
 | 12 => ⟨[6], [1000, 1001], [], [], [1000, 1001]⟩
 | _ => ⟨[], [], [], [], []⟩
noncomputable abbrev Qy : Cx := ⟨Tryz.prog, ⟨id, Qk, Qf⟩, Z4⟩
theorem Vu {args : List PV} {es es' : List Ent} {r : PV} (ha : args.length = 3) (hl : es'.length = es.length) (he : (es'.all fun e => e.wT es.length) = true) (h : awp Qy Qs (zZ Tryz.prog [.tmp 6] r es') (zS args es)) : BC Tryz.prog 79 args es r es' :=
 QF (X := Qy) mixed Tryz.func79 (c := Qs) (by kernel_rfl) (by kernel_rfl) (rs := [.tmp 6]) (by kernel_rfl) (by kernel_rfl) (by rw [ha]; decide) hl (fun e h => List.all_eq_true.1 he e h) h
noncomputable def adf : Code := (Tryz.f38.body).getD .skip
def aba : List (Nat × Nf) := [(14, [none, none, some 1, some 2, some 5])]
def aaU : List (Nat × List Nat) := [(23, [2]), (25, [17]), (26, [17]), (27, [17]), (500004, [4])]
def aaH : Nat → Ann
 | 0 => ⟨[2, 3, 4], [2, 3, 4], [.nrm 4 [none, none, some 1, some 2, some 5]], [], [2, 3, 4]⟩
 | 1 => ⟨[2, 3, 4, 13], [2, 3, 4], [], [], [2, 3, 4]⟩
 | 2 => ⟨[4, 5, 6], [4], [.nrm 5 [some 3]], [], [4]⟩
 | 3 => ⟨[2, 4, 7], [2, 4, 17, 425], [.VV 17 6 425 3], [], [2, 4, 17, 425]⟩
 | 4 => ⟨[2, 4, 7], [2, 4, 17, 425], [], [], [2, 4, 17, 425]⟩
 | 5 => ⟨[4, 5, 6], [4, 425], [], [.ren 425 5], [4, 5, 425]⟩
 | _ => ⟨[], [], [], [], []⟩
noncomputable abbrev acx : Cx := ⟨Tryz.prog, ⟨id, aba, aaU⟩, aaH⟩
theorem ad4 {args : List PV} {r : PV} (ha : args.length = 2) (h : awp acx adf (zZ Tryz.prog [.cell 4 28, .tmp 5, .tmp 6] r []) (zS args [])) : PC Tryz.prog 38 args r :=
 zL (X := acx) mixed Tryz.func38 (c := adf) (by kernel_rfl) (by kernel_rfl) (rs := [.cell 4 28, .tmp 5, .tmp 6]) (by kernel_rfl) (by kernel_rfl) (by rw [ha]; decide) h
noncomputable def adG : Code := (Tryz.f9.body).getD .skip
def abv : List (Nat × Nf) := [(16, [none, none, some 1, some 2, some 5]), (26, [none, none, some 1, some 2, some 5])]
def abj : List (Nat × List Nat) := []
def aaJ : Nat → Ann
 | 0 => ⟨[2, 3, 4], [2, 3, 4], [.nrm 4 [none, none, some 1, some 2, some 5]], [], [2, 3, 4]⟩
 | 1 => ⟨[2, 3, 4, 12], [2, 3, 4], [], [], [2, 3, 4]⟩
 | 2 => ⟨[4, 5], [4], [], [], [4]⟩
 | 3 => ⟨[2, 3, 4, 17], [2, 3, 4], [], [], [2, 3, 4]⟩
 | 4 => ⟨[4, 5], [4], [], [], [4]⟩
 | 5 => ⟨[2, 3, 4, 27], [2, 3, 4], [], [], [2, 3, 4]⟩
 | 6 => ⟨[4, 5], [4], [], [], [4]⟩
 | 7 => ⟨[2, 3, 4, 41], [2, 3, 4], [], [], [2, 3, 4]⟩
 | 8 => ⟨[4, 6, 8], [4, 6], [], [], [4, 6]⟩
 | 9 => ⟨[4, 5], [4], [], [], [4]⟩
 | 10 => ⟨[4, 9, 11], [4, 9], [], [], [4, 9]⟩
 | 11 => ⟨[4, 5], [4], [], [], [4]⟩
 | _ => ⟨[], [], [], [], []⟩
noncomputable abbrev acp : Cx := ⟨Tryz.prog, ⟨id, abv, abj⟩, aaJ⟩
theorem adJ {args : List PV} {r : PV} (ha : args.length = 2) (h : awp acp adG (zZ Tryz.prog [.cell 4 28, .tmp 5] r []) (zS args [])) : PC Tryz.prog 9 args r :=
 zL (X := acp) mixed Tryz.func9 (c := adG) (by kernel_rfl) (by kernel_rfl) (rs := [.cell 4 28, .tmp 5]) (by kernel_rfl) (by kernel_rfl) (by rw [ha]; decide) h
noncomputable def WH : Code := (Tryz.f6.body).getD .skip
def Qt : List (Nat × Nf) := [(4, [none, none, some 1, some 2, some 5]), (6, [none, none, some 1, some 2, some 5]), (8, [none, none, some 1, some 2, some 5]), (11, [none, none, none, some 5, none, none])]
def Qr : List (Nat × List Nat) := []
def Qz : Nat → Ann
 | 0 => ⟨[], [], [], [], []⟩
 | 1 => ⟨[1], [1], [], [], [1]⟩
 | 2 => ⟨[2, 3], [2], [], [], [2]⟩
 | 3 => ⟨[0], [], [], [], []⟩
 | _ => ⟨[], [], [], [], []⟩
noncomputable abbrev Wh : Cx := ⟨Tryz.prog, ⟨id, Qt, Qr⟩, Qz⟩
theorem V8 {args : List PV} {r : PV} (ha : args.length = 0) (h : awp Wh WH (zZ Tryz.prog [.tmp 0] r []) (zS args [])) : PC Tryz.prog 6 args r :=
 zL (X := Wh) mixed Tryz.func6 (c := WH) (by kernel_rfl) (by kernel_rfl) (rs := [.tmp 0]) (by kernel_rfl) (by kernel_rfl) (by rw [ha]; decide) h
noncomputable def Kc : Code := (Tryz.f31.body).getD .skip
def WB : List (Nat × Nf) := []
def WM : List (Nat × List Nat) := []
def Wz : Nat → Ann
 | 0 => ⟨[0, 1], [], [], [], []⟩
 | 1 => ⟨[0, 1, 6], [], [], [], []⟩
 | 2 => ⟨[0, 1], [], [], [], []⟩
 | 3 => ⟨[4], [], [], [], []⟩
 | _ => ⟨[], [], [], [], []⟩
noncomputable abbrev Kt : Cx := ⟨Tryz.prog, ⟨id, WB, WM⟩, Wz⟩
theorem JR {args : List PV} {r : PV} (ha : args.length = 2) (h : awp Kt Kc (zZ Tryz.prog [.tmp 4] r []) (zS args [])) : PC Tryz.prog 31 args r :=
 zL (X := Kt) mixed Tryz.func31 (c := Kc) (by kernel_rfl) (by kernel_rfl) (rs := [.tmp 4]) (by kernel_rfl) (by kernel_rfl) (by rw [ha]; decide) h
noncomputable def ZH : Code := (Tryz.f59.body).getD .skip
def y8 : List (Nat × Nf) := []
def yU : List (Nat × List Nat) := []
def yV : Nat → Ann
 | 0 => ⟨[0, 1], [], [], [], []⟩
 | 1 => ⟨[0, 1, 10], [], [], [], []⟩
 | 2 => ⟨[4], [], [], [], []⟩
 | 3 => ⟨[0, 1, 5], [], [], [], []⟩
 | 4 => ⟨[0, 1, 5, 14], [], [], [], []⟩
 | 5 => ⟨[0, 1, 5], [], [], [], []⟩
 | 6 => ⟨[0, 1, 5, 25], [], [], [], []⟩
 | 7 => ⟨[4], [], [], [], []⟩
 | 8 => ⟨[4], [], [], [], []⟩
 | _ => ⟨[], [], [], [], []⟩
noncomputable abbrev ZB : Cx := ⟨Tryz.prog, ⟨id, y8, yU⟩, yV⟩
theorem Kz {args : List PV} {r : PV} (ha : args.length = 2) (h : awp ZB ZH (zZ Tryz.prog [.tmp 4] r []) (zS args [])) : PC Tryz.prog 59 args r :=
 zL (X := ZB) mixed Tryz.func59 (c := ZH) (by kernel_rfl) (by kernel_rfl) (rs := [.tmp 4]) (by kernel_rfl) (by kernel_rfl) (by rw [ha]; decide) h
noncomputable def Vp : Code := (Tryz.f55.body).getD .skip
def Ke : List (Nat × Nf) := []
def WU : List (Nat × List Nat) := [(65, [3]), (66, [3, 62]), (67, [5]), (69, [62, 68])]
def WX : Nat → Ann
 | 0 => ⟨[0], [], [], [], []⟩
 | 1 => ⟨[0, 3], [3], [.thaw 3 3 5], [], [3]⟩
 | 2 => ⟨[0, 3, 4], [3], [], [], [3]⟩
 | 3 => ⟨[0, 3, 4, 10], [3], [], [], [3]⟩
 | 4 => ⟨[0, 3, 4], [3], [], [], [3]⟩
 | 5 => ⟨[0, 3, 4, 5], [3, 5], [], [], [3, 5]⟩
 | 6 => ⟨[0, 3, 4, 5, 6], [3, 5], [], [], [3, 5]⟩
 | 7 => ⟨[0, 3, 4, 5, 6, 27], [3, 5], [], [], [3, 5]⟩
 | 8 => ⟨[0, 3, 4, 5, 6, 52], [3, 5], [], [], [3, 5]⟩
 | 9 => ⟨[0, 3, 4, 5, 6], [3, 5], [], [], [3, 5]⟩
 | 10 => ⟨[0, 3, 4], [62], [], [.ren 62 3], [3, 62]⟩
 | 11 => ⟨[0, 3, 4], [3], [], [], [3]⟩
 | 12 => ⟨[2], [3], [], [.ren 3 2], [2, 3]⟩
 | _ => ⟨[], [], [], [], []⟩
noncomputable abbrev K7 : Cx := ⟨Tryz.prog, ⟨id, Ke, WU⟩, WX⟩
theorem Xx {args : List PV} {r : PV} (ha : args.length = 1) (h : awp K7 Vp (zZ Tryz.prog [.tmp 2] r []) (zS args [])) : PC Tryz.prog 55 args r :=
 zL (X := K7) mixed Tryz.func55 (c := Vp) (by kernel_rfl) (by kernel_rfl) (rs := [.tmp 2]) (by kernel_rfl) (by kernel_rfl) (by rw [ha]; decide) h
noncomputable def Kh : Code := (Tryz.f32.body).getD .skip
def WG : List (Nat × Nf) := [(29, [none, none, some 1, some 2, none])]
def WA : List (Nat × List Nat) := []
def Wi : Nat → Ann
 | 0 => ⟨[1, 2, 4], [2, 4], [.nrm 4 [none, none, some 1, some 2, some 5]], [], [2, 4]⟩
 | 1 => ⟨[1, 2, 4, 5], [2, 4, 8], [], [.ren 8 5], [2, 4, 5, 8]⟩
 | 2 => ⟨[1, 2, 4, 5, 6], [2, 4, 5, 9], [], [.ren 9 6], [2, 4, 5, 6, 9]⟩
 | 3 => ⟨[1, 4, 7], [4, 25], [], [.ren 25 7], [4, 7, 25]⟩
 | 4 => ⟨[4], [4], [], [], [4]⟩
 | _ => ⟨[], [], [], [], []⟩
noncomputable abbrev Kl : Cx := ⟨Tryz.prog, ⟨id, WG, WA⟩, Wi⟩
theorem JC {args : List PV} {r : PV} (ha : args.length = 2) (h : awp Kl Kh (zZ Tryz.prog [.cell 4 28] r []) (zS args [])) : PC Tryz.prog 32 args r :=
 zL (X := Kl) mixed Tryz.func32 (c := Kh) (by kernel_rfl) (by kernel_rfl) (rs := [.cell 4 28]) (by kernel_rfl) (by kernel_rfl) (by rw [ha]; decide) h
noncomputable def Ku : Code := (Tryz.f33.body).getD .skip
def Wo : List (Nat × Nf) := []
def Wt : List (Nat × List Nat) := []
def Ws : Nat → Ann
 | 0 => ⟨[1], [1], [], [], [1]⟩
 | 1 => ⟨[1, 7], [1], [], [], [1]⟩
 | 2 => ⟨[2], [], [], [], []⟩
 | 3 => ⟨[1, 3], [1], [], [], [1]⟩
 | 4 => ⟨[1, 3, 4], [1], [], [], [1]⟩
 | 5 => ⟨[1, 3, 4, 12], [1], [], [], [1]⟩
 | 6 => ⟨[1, 3, 4], [1], [], [], [1]⟩
 | 7 => ⟨[1, 3, 4], [1], [], [], [1]⟩
 | 8 => ⟨[2], [], [], [], []⟩
 | _ => ⟨[], [], [], [], []⟩
noncomputable abbrev Kk : Cx := ⟨Tryz.prog, ⟨id, Wo, Wt⟩, Ws⟩
theorem Jz {args : List PV} {r : PV} (ha : args.length = 1) (h : awp Kk Ku (zZ Tryz.prog [.tmp 2] r []) (zS args [])) : PC Tryz.prog 33 args r :=
 zL (X := Kk) mixed Tryz.func33 (c := Ku) (by kernel_rfl) (by kernel_rfl) (rs := [.tmp 2]) (by kernel_rfl) (by kernel_rfl) (by rw [ha]; decide) h
noncomputable def Va : Code := (Tryz.f7.body).getD .skip
def Kq : List (Nat × Nf) := [(14, [none, none, some 1, some 2, none]), (34, [none, none, none, some 2, some 5]), (62, [none, none, some 1, none, none]), (93, [none, none, some 1, some 2, none]), (171, [none, none, none, none, some 5]), (173, [none, none, some 1, some 2, some 5]), (177, [none, none, none, none, some 5])]
def Ka : List (Nat × List Nat) := [(115, [12]), (116, [12]), (117, [114]), (118, [11]), (120, [114, 119]), (121, [12]), (123, [4]), (124, [4]), (126, [332]), (127, [122, 332]), (128, [12]), (130, [122, 129]), (131, [4]), (152, [11]), (153, [11]), (154, [4]), (155, [4]), (157, [332]), (158, [332]), (160, [159, 381]), (161, [11]), (500121, [12, 114]), (500131, [4, 122])]
def WY : Nat → Ann
 | 0 => ⟨[0, 2], [2], [.nrm 2 [none, none, some 1, some 2, some 5]], [], [2]⟩
 | 1 => ⟨[0, 2, 3], [2, 13], [], [.ren 13 3], [2, 3, 13]⟩
 | 2 => ⟨[0, 2, 3, 4], [2, 3, 4, 332], [.VV 4 4 332 5], [], [2, 3, 4, 332]⟩
 | 3 => ⟨[0, 2, 3, 4, 5], [2, 3, 4, 5, 332], [.thaw 5 5 5], [], [2, 3, 4, 5, 332]⟩
 | 4 => ⟨[0, 2, 3, 4, 5, 6], [2, 3, 4, 5, 332], [], [], [2, 3, 4, 5, 332]⟩
 | 5 => ⟨[0, 2, 3, 4, 5, 6, 22], [2, 3, 4, 5, 332], [], [], [2, 3, 4, 5, 332]⟩
 | 6 => ⟨[0, 2, 3, 4, 5, 6], [2, 3, 4, 5, 332], [], [], [2, 3, 4, 5, 332]⟩
 | 7 => ⟨[0, 2, 3, 4, 5, 6, 7], [2, 3, 4, 5, 7, 332, 351], [.VV 7 2 351 1], [], [2, 3, 4, 5, 7, 332, 351]⟩
 | 8 => ⟨[0, 2, 3, 4, 5, 6, 7, 42], [2, 3, 4, 5, 7, 332, 351], [], [], [2, 3, 4, 5, 7, 332, 351]⟩
 | 9 => ⟨[0, 2, 3, 4, 5, 6, 7], [2, 3, 4, 5, 7, 332, 351], [], [], [2, 3, 4, 5, 7, 332, 351]⟩
 | 10 => ⟨[0, 2, 3, 4, 5, 6, 7, 55], [2, 3, 4, 5, 7, 332, 351], [], [], [2, 3, 4, 5, 7, 332, 351]⟩
 | 11 => ⟨[0, 2, 3, 4, 5, 6, 7], [2, 3, 4, 5, 7, 332, 351], [], [], [2, 3, 4, 5, 7, 332, 351]⟩
 | 12 => ⟨[0, 2, 3, 4, 5, 6], [2, 3, 4, 5, 332], [], [], [2, 3, 4, 5, 332]⟩
 | 13 => ⟨[0, 2, 3, 4, 5, 6, 8], [2, 3, 4, 5, 332], [], [], [2, 3, 4, 5, 332]⟩
 | 14 => ⟨[0, 2, 3, 4, 5, 6, 8, 72], [2, 3, 4, 5, 332], [], [], [2, 3, 4, 5, 332]⟩
 | 15 => ⟨[0, 2, 3, 4, 6, 8, 9], [2, 3, 4, 9, 332], [], [], [2, 3, 4, 9, 332]⟩
 | 16 => ⟨[0, 2, 3, 4, 5, 6, 8, 9], [2, 3, 4, 5, 9, 332], [.thaw 5 5 5], [], [2, 3, 4, 5, 9, 332]⟩
 | 17 => ⟨[0, 2, 3, 4, 5, 6, 8, 9, 10], [2, 3, 4, 5, 9, 332], [], [], [2, 3, 4, 5, 9, 332]⟩
 | 18 => ⟨[0, 2, 3, 4, 5, 6, 8, 9, 10, 84], [2, 3, 4, 5, 9, 332], [], [], [2, 3, 4, 5, 9, 332]⟩
 | 19 => ⟨[0, 2, 3, 4, 5, 6], [2, 3, 4, 5, 332], [], [], [2, 3, 4, 5, 332]⟩
 | 20 => ⟨[0, 2, 3, 4, 5, 6, 8, 10, 11], [2, 3, 4, 5, 11, 92, 332], [], [.ren 92 381], [2, 3, 4, 5, 11, 92, 332, 381]⟩
 | 21 => ⟨[0, 2, 3, 4, 5, 6, 10, 11, 108], [2, 3, 4, 5, 11, 332, 381], [], [], [2, 3, 4, 5, 11, 332, 381]⟩
 | 22 => ⟨[0, 2, 3, 4, 5, 6, 10, 11, 12], [2, 3, 4, 5, 11, 12, 332, 381], [], [], [2, 3, 4, 5, 11, 12, 332, 381]⟩
 | 23 => ⟨[0, 2, 3, 4, 5, 6, 10, 12], [2, 3, 4, 5, 12, 332], [.nrm 12 [none, none, none, none, some 5]], [], [2, 3, 4, 5, 12, 332]⟩
 | 24 => ⟨[0, 2, 3, 4, 5, 6], [2, 3, 4, 5, 122], [], [.ren 122 332], [2, 3, 4, 5, 122, 332]⟩
 | 25 => ⟨[0, 2, 3, 4, 5, 6, 10, 11, 151], [2, 3, 4, 5, 11, 332, 381], [], [], [2, 3, 4, 5, 11, 332, 381]⟩
 | 26 => ⟨[0, 2, 3, 4, 5, 6, 10, 11], [2, 3, 4, 5, 11, 332, 381], [], [], [2, 3, 4, 5, 11, 332, 381]⟩
 | 27 => ⟨[0, 2, 3, 4, 5, 6, 11], [2, 3, 4, 5, 11, 162, 381], [], [.ren 162 332], [2, 3, 4, 5, 11, 162, 332, 381]⟩
 | 28 => ⟨[0, 2, 3, 4, 5, 6], [2, 3, 4, 5, 332], [], [], [2, 3, 4, 5, 332]⟩
 | 29 => ⟨[2], [2], [], [], [2]⟩
 | _ => ⟨[], [], [], [], []⟩
noncomputable abbrev Vj : Cx := ⟨Tryz.prog, ⟨id, Kq, Ka⟩, WY⟩
theorem Xy {args : List PV} {r : PV} (ha : args.length = 1) (h : awp Vj Va (zZ Tryz.prog [.cell 2 28] r []) (zS args [])) : PC Tryz.prog 7 args r :=
 zL (X := Vj) mixed Tryz.func7 (c := Va) (by kernel_rfl) (by kernel_rfl) (rs := [.cell 2 28]) (by kernel_rfl) (by kernel_rfl) (by rw [ha]; decide) h
noncomputable def Ki : Code := (Tryz.f8.body).getD .skip
def Wl : List (Nat × Nf) := [(74, [none, none, none, some 5, none, none]), (89, [none, none, none, some 5, none, none]), (102, [none, none, none, some 5, none, none])]
def Wm : List (Nat × List Nat) := []
def Wq : Nat → Ann
 | 0 => ⟨[1, 2, 3, 4, 5, 10], [5, 10], [.nrm 10 [none, none, none, some 5, none, none]], [], [5, 10]⟩
 | 1 => ⟨[1, 2, 3, 4, 5, 10, 11], [5, 10], [], [], [5, 10]⟩
 | 2 => ⟨[1, 3, 4, 5, 10, 11, 12], [5, 10], [], [], [5, 10]⟩
 | 3 => ⟨[1, 4, 5, 10, 12, 13], [5, 10], [], [], [5, 10]⟩
 | 4 => ⟨[1, 4, 5, 10, 12, 13, 14], [5, 10, 29], [], [.ren 29 14], [5, 10, 14, 29]⟩
 | 5 => ⟨[1, 4, 5, 10, 12, 13, 14, 31], [5, 10, 14], [], [], [5, 10, 14]⟩
 | 6 => ⟨[1, 4, 5, 10, 12, 13, 14, 31, 32], [5, 10, 14], [], [], [5, 10, 14]⟩
 | 7 => ⟨[5, 10, 15], [5, 10, 15], [], [], [5, 10, 15]⟩
 | 8 => ⟨[5, 10, 15, 17], [5, 10, 15], [], [], [5, 10, 15]⟩
 | 9 => ⟨[5, 10, 15, 58], [5, 10, 15], [], [], [5, 10, 15]⟩
 | 10 => ⟨[5, 10, 15], [5, 10, 15], [], [], [5, 10, 15]⟩
 | 11 => ⟨[5, 10, 15, 17], [5, 10, 15], [], [], [5, 10, 15]⟩
 | 12 => ⟨[10], [10], [], [], [10]⟩
 | 13 => ⟨[1, 10, 12, 13, 14, 31, 70], [10, 14], [], [], [10, 14]⟩
 | 14 => ⟨[10], [10], [], [], [10]⟩
 | 15 => ⟨[1, 10, 12, 13, 14, 75], [10, 14], [], [], [10, 14]⟩
 | 16 => ⟨[10], [10], [], [], [10]⟩
 | 17 => ⟨[10], [10], [], [], [10]⟩
 | _ => ⟨[], [], [], [], []⟩
noncomputable abbrev Kr : Cx := ⟨Tryz.prog, ⟨id, Wl, Wm⟩, Wq⟩
theorem Jt {args : List PV} {r : PV} (ha : args.length = 5) (h : awp Kr Ki (zZ Tryz.prog [.cell 10 31] r []) (zS args [])) : PC Tryz.prog 8 args r :=
 zL (X := Kr) mixed Tryz.func8 (c := Ki) (by kernel_rfl) (by kernel_rfl) (rs := [.cell 10 31]) (by kernel_rfl) (by kernel_rfl) (by rw [ha]; decide) h
noncomputable def yN : Code := (Tryz.f3.body).getD .skip
def xY : List (Nat × Nf) := []
def xU : List (Nat × List Nat) := []
def x8 : Nat → Ann
 | 0 => ⟨[0, 1, 2, 3, 4], [], [], [], []⟩
 | 1 => ⟨[0, 1, 2, 3, 4, 11], [], [], [], []⟩
 | 2 => ⟨[0, 1, 2, 3, 4, 11, 30], [], [], [], []⟩
 | 3 => ⟨[10], [], [], [], []⟩
 | 4 => ⟨[1, 2, 3, 4, 12], [12], [], [], [12]⟩
 | 5 => ⟨[12, 13], [12, 13], [], [], [12, 13]⟩
 | 6 => ⟨[12, 13, 14, 15], [12, 13, 14], [], [], [12, 13, 14]⟩
 | 7 => ⟨[12, 13, 14, 52], [12, 13, 14], [], [], [12, 13, 14]⟩
 | 8 => ⟨[10], [], [], [], []⟩
 | 9 => ⟨[13, 14, 16], [13, 14], [], [], [13, 14]⟩
 | 10 => ⟨[13, 16, 17], [13], [], [], [13]⟩
 | 11 => ⟨[13, 16, 17, 18], [13], [], [], [13]⟩
 | 12 => ⟨[13, 16, 17, 18, 19], [13], [], [], [13]⟩
 | 13 => ⟨[13, 16, 17, 18, 19, 64], [13], [], [], [13]⟩
 | 14 => ⟨[13, 16, 17, 18, 19], [13], [], [], [13]⟩
 | 15 => ⟨[13, 16, 17, 18, 19, 76], [13], [], [], [13]⟩
 | 16 => ⟨[13, 16, 17, 18, 19, 20], [13], [], [], [13]⟩
 | 17 => ⟨[13, 16, 17, 18, 19, 102], [13], [], [], [13]⟩
 | 18 => ⟨[10], [], [], [], []⟩
 | 19 => ⟨[13, 16, 17, 21], [13], [], [], [13]⟩
 | 20 => ⟨[13, 16, 17, 21, 113], [13], [], [], [13]⟩
 | 21 => ⟨[13, 16, 17, 21], [13], [], [], [13]⟩
 | 22 => ⟨[13, 16, 17, 21, 121], [13], [], [], [13]⟩
 | 23 => ⟨[13, 16, 17, 21, 130], [13], [], [], [13]⟩
 | 24 => ⟨[10], [], [], [], []⟩
 | 25 => ⟨[13, 16, 17, 21, 22], [13, 22], [], [], [13, 22]⟩
 | 26 => ⟨[13, 16, 17, 21, 165], [13], [], [], [13]⟩
 | 27 => ⟨[10], [], [], [], []⟩
 | 28 => ⟨[10], [], [], [], []⟩
 | _ => ⟨[], [], [], [], []⟩
noncomputable abbrev yH : Cx := ⟨Tryz.prog, ⟨id, xY, xU⟩, x8⟩
theorem Wv {args : List PV} {r : PV} (ha : args.length = 5) (h : awp yH yN (zZ Tryz.prog [.tmp 10] r []) (zS args [])) : PC Tryz.prog 3 args r :=
 zL (X := yH) mixed Tryz.func3 (c := yN) (by kernel_rfl) (by kernel_rfl) (rs := [.tmp 10]) (by kernel_rfl) (by kernel_rfl) (by rw [ha]; decide) h
attribute [go_sem] Yc XT Yp abu aa8 aaX ae0 afk aeZ YG Yy Yv jB jy jC adi acA aca aaF aa4 aa6 aaM abf abb VQ VT VL Vt KP Vh agr ah0 ahq Ko Kj WV Qi Qo Qd aat aay aaA adt ac1 acG ab4 acP ace aaE abm abk Yr X4 Yk aa9 aa7 aaw aaV aax aar aaS aaK abr aaC aaR aaN KX Vk Vs JD JK Js Kn WT W9 Y3 YR YZ YU Y4 YM Yq X0 YX acL adb acH yZ Ze y7 X8 XZ XX yJ yL yM aa3 aa1 abn acD acm acE Km WZ WW X6 Yo YC XG XF XA j5 j4 xh y9 Zc Zb aff afd afc ZR Qh ZW yY yT y5 Z8 Ql Qb Z4 Qk Qf aaH aba aaU aaJ abv abj Qz Qt Qr Wz WB WM yV y8 yU WX Ke WU Wi WG WA Ws Wo Wt WY Kq Ka Wq Wl Wm x8 xY xU ty3 ty4 ty5 ty9 axa awV awW axe awZ avI aw2 awT aw9 aw1 aw0 awY aw6 aw4 axf aw7 awk awf av6 avD awx awh zu.jA zf.jA za.jA zG.jA zx.jA wR.jA qH.jA wz.jA zi.jA jS.jA pvL
theorem pvE : (∀ x : zu, x.pv = .agg [.int .i64 x.Text, .int .i64 x.Marks, .int .i64 x.zq, .int .i64 x.In]) ∧ (∀ x : zf, x.pv = .agg [.str x.Name, .str x.Value]) ∧ (∀ x : za, x.pv = .agg [.str x.Kind, .str x.Text, .list 1 (x.Marks.map PV.str), .list 2 (x.zq.map zf.pv), .list 5 (x.Kids.map za.pv)]) ∧ (∀ x : zG, x.pv = .agg [.int .u8 x.Kind, .int .i64 x.From, .int .i64 x.To, .list 5 (x.wJ.map za.pv), .str x.Name, .str x.Value]) ∧ (∀ x : zx, x.pv = .agg [.int .u8 x.Kind, .str x.Text, .str x.Head]) ∧ (∀ x : wR, x.pv = .agg [.int .u8 x.Kind, .str x.Text, .str x.Head]) ∧ (∀ x : qH, x.pv = .agg [.list 1 (x.path.map (PV.int .i64)), .str x.in_.Kind, .str x.in_.Text, .list 1 (x.in_.Marks.map PV.str), .list 2 (x.in_.zq.map zf.pv), .list 5 (x.in_.Kids.map za.pv), .int .i64 x.from_, .int .i64 x.to_]) ∧ (∀ x : wz, x.pv = .agg [.list 1 (x.Path.map (PV.int .i64)), .int .i64 x.Index, .int .i64 x.Offset]) ∧ (∀ x : zi, x.pv = .agg [.int .i64 x.Pos, .int .i64 x.Old, .int .i64 x.New]) ∧ (∀ x : jS, x.pv = .agg [.int .u8 x.s.Kind, .int .i64 x.s.From, .int .i64 x.s.To, .list 5 (x.s.wJ.map za.pv), .str x.s.Name, .str x.s.Value, .list 3 (x.changed.map zi.pv)]) ∧ (∀ (α : Type) (sz : Nat) (f : α → PV) (l : List α), pvL sz f l = .list sz (l.map f)) :=
 ⟨zu.jA, zf.jA, za.jA, zG.jA, zx.jA, wR.jA, qH.jA, wz.jA, zi.jA, jS.jA, fun _ _ _ _ => rfl⟩
theorem lsE {α β : Type} (f : α → β) : (∀ a l, List.map f (a :: l) = f a :: List.map f l) ∧ List.map f [] = [] ∧ (∀ a b, List.map f (a ++ b) = List.map f a ++ List.map f b) :=
 ⟨fun _ _ => rfl, rfl, fun a b => List.map_append⟩
end Go.Proofs.YtclohbgnaopjfaaGreatDoor
