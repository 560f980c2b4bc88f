/- Chapter 18's example. -/
import Derived.Test.YtpjdafhmneiohaaDoorDiffProg
namespace Go.Proofs.YtpjdafhmneiohaaDoor
set_option linter.unusedSimpArgs false
set_option linter.unusedVariables false
open Go Classical

/-! ### Chapter 18's example -/
abbrev exA : api_Node := ⟨[100, 111, 99], [], [], [], [⟨[112], [], [], [], [⟨sText, [104, 105], [], [], []⟩]⟩, ⟨[113], [], [], [], []⟩]⟩
abbrev exB : api_Node := ⟨[100, 111, 99], [], [], [], [⟨[112], [], [], [], [⟨sText, [104, 111], [], [], []⟩]⟩, ⟨[113], [], [], [], []⟩]⟩
abbrev exP (t : Str) : api_Node := ⟨[112], [], [], [], [⟨sText, t, [], [], []⟩]⟩
theorem shown18_eq : diptychlaw18_shown = some true := by
  have c1 : dh exA exB = 0 := by simp [dh, cH]
  have c2 : dt exA exB = 1 := by simp [dt, cT, c1, cH]
  have c3 : dh (exP [104, 105]) (exP [104, 111]) = 0 := by simp [dh, cH]
  have c4 : dt (exP [104, 105]) (exP [104, 111]) = 0 := by simp [dt, cT, cH]
  have m1 : dm exA exB = 1 := by simp [dm, c1, c2]
  have n1 : dn exA exB = 1 := by simp [dn, c1, c2]
  have m2 : dm (exP [104, 105]) (exP [104, 111]) = 1 := by simp [dm, c3, c4]
  have n2 : dn (exP [104, 105]) (exP [104, 111]) = 1 := by simp [dn, c3, c4]
  have D2 : Dif (exP [104, 105]) (exP [104, 111]) (0 + nsizes (exA.Kids.take (dh exA exB)) + 1) [] [(exP [104, 105], exP [104, 111], 0 + nsizes (exA.Kids.take (dh exA exB)) + 1)] (exP [104, 105]) (exP [104, 111]) (0 + nsizes (exA.Kids.take (dh exA exB)) + 1) := by
    refine .stop _ _ _ fun ⟨_, _, h⟩ => ?_
    have := h ⟨sText, [104, 105], [], [], []⟩ ⟨sText, [104, 111], [], [], []⟩ (by rw [c3]; rfl) (by rw [c3]; rfl)
    exact absurd this (by decide)
  have D1 := Dif.go exA exB 0 (exP [104, 105]) (exP [104, 111]) _ _ _ _ _ m1 n1 (by rw [c1]; rfl) (by rw [c1]; rfl) (by decide) D2
  have h := steps_prog D1 (by decide +kernel) (by decide +kernel) (by decide) (by decide +kernel) (by decide +kernel)
  have hr : repD (exP [104, 105]) (exP [104, 111]) (0 + nsizes (exA.Kids.take (dh exA exB)) + 1) = [⟨114, 1, 3, [⟨sText, [104, 111], [], [], []⟩], [], []⟩] := by
    have z : nsizes (exA.Kids.take (dh exA exB)) = 0 := by rw [c1]; rfl
    have z2 : nsizes ([⟨sText, [104, 105], [], [], []⟩] : List api_Node) = 2 := by decide +kernel
    unfold repD
    rw [m2, n2, c3, z]
    simp [z2, nsizes]
  rw [hr] at h
  simp only [attC, attP, List.flatMap_cons, List.flatMap_nil, List.nil_append] at h
  unfold diptychlaw18_shown
  rw [h]
  rfl
end Go.Proofs.YtpjdafhmneiohaaDoor
