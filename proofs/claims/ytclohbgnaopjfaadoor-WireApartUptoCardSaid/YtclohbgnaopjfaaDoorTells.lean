/- What is told by an answer. -/
import Derived.Test.YtclohbgnaopjfaaDoorSmall
namespace Go.Proofs.YtclohbgnaopjfaaDoor
set_option linter.unusedSimpArgs false
set_option linter.unusedVariables false
open Go

/-- A yes that says just so much. -/
def Tells (x : Option Bool) (p : Prop) : Prop := ∃ b, x = some b ∧ (b = true ↔ p)
theorem Tells.yes {x : Option Bool} {p : Prop} (h : Tells x p) (hp : p) : x = some true := by
  obtain ⟨b, rfl, hb⟩ := h
  rw [hb.2 hp]
theorem Tells.no {x : Option Bool} {p : Prop} (h : Tells x p) (hp : ¬ p) : x = some false := by
  obtain ⟨b, rfl, hb⟩ := h
  cases b with
  | false => rfl
  | true => exact (hp (hb.1 rfl)).elim
end Go.Proofs.YtclohbgnaopjfaaDoor
