/- Chapter 5's example; documents that are made. -/
import Derived.Test.YtblielhogcnnkaaDoorPieceOps
import Derived.Test.YtblielhogcnnkaaDoorDocRight
namespace Go.Proofs.YtblielhogcnnkaaDoor
set_option linter.unusedSimpArgs false
set_option linter.unusedVariables false
open Go

theorem if_min (p q : Nat) : (if (q : Int) < (p : Int) then (q : Int) else (p : Int)) = ((min p q : Nat) : Int) := by split <;> omega
theorem if_max (p q : Nat) : (if (q : Int) > (p : Int) then (q : Int) else (p : Int)) = ((max p q : Nat) : Int) := by split <;> omega
abbrev docN (ks : List api_Node) : api_Node := ⟨sDoc, [], [], [], ks⟩
theorem doc_rn {ks : List api_Node} (h : Kids ks) : RN (docN ks) ∧ nwt (docN ks) ≤ 500 ∧ ndep (docN ks) ≤ 20 ∧ nsize (docN ks) = 2 + nsizes ks ∧ nsizes ks ≤ 456 := by
  have hw := h.wt
  have hd := h.dep
  have hs := nsizes_le' ks
  have e : nwt (docN ks) ≤ 500 := by
    rw [nwt_eq]; simp only [strsW, attrsW, List.length_cons, List.length_nil]; omega
  refine ⟨⟨doc_right h, rfl, by omega⟩, e, by rw [ndep_eq]; simp only; omega, size_node rfl, by omega⟩

abbrev ex5p (t : Str) : api_Node := ⟨[112], [], [], [], [tN t []]⟩
abbrev ex5 : api_Node := docN [ex5p [104, 105]]
theorem shown5_eq : diptychlaw5_shown = some true := by
  have r1 : runes [104, 105] = [104, 105] := by decide +kernel
  have r2 : runes [104, 120, 105] = [104, 120, 105] := by decide +kernel
  have r3 : runes [120] = [120] := by decide +kernel
  have i1 : ∀ (t : Str), items [tN t []] = (runes t).map fun c => It.sgn c [] := fun t => by
    have : isT (tN t []) = true := rfl
    simp [items, itN, this]
  have hn : RN ex5 := ⟨by decide +kernel, rfl, by decide +kernel⟩
  have hA : At ex5 [0] (ex5p [104, 105]) 1 := by
    have := At.cons ex5 0 (ex5p [104, 105]) [] (ex5p [104, 105]) 0 rfl rfl rfl (.nil _)
    simpa [nsizes] using this
  have hF : Flat ex5 2 2 [0] (ex5p [104, 105]) 1 [.sgn 104 []] [] [.sgn 105 []] := by
    refine ⟨hA, rfl, ?_, rfl, rfl⟩
    show items [tN [104, 105] []] = _
    rw [i1, r1]
    rfl
  have f3 : formB (tN [120] []) = true := by decide +kernel
  obtain ⟨K, N, rfl, h1, h2, h3, _⟩ := put_eq hn (by decide +kernel) hF (l := [tN [120] []]) (fun x hx => by simp at hx; rw [hx]; exact f3) (by decide +kernel) (by decide +kernel) (by decide +kernel) (by decide +kernel)
  have hK : K = [tN [104, 120, 105] []] := by
    refine frow_ext h2 ⟨fun x hx => ?_, trivial⟩ ?_
    · simp at hx
      rw [hx]
      decide +kernel
    · rw [h3, i1, i1, r2, r3]
      rfl
  subst hK
  have e2 : ((2 : Nat) : Int) = 2 := rfl
  rw [e2] at h1
  unfold diptychlaw5_shown
  rw [h1]
  rfl

end Go.Proofs.YtblielhogcnnkaaDoor
