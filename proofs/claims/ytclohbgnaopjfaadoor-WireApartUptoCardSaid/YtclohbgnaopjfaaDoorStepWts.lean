/- Weights of steps, as arguments. -/
import Derived.Test.YtclohbgnaopjfaaDoorWts
namespace Go.Proofs.YtclohbgnaopjfaaDoor
set_option linter.unusedSimpArgs false
set_option linter.unusedVariables false
open Go

theorem nwts_pv (l : List api_Node) : nwts l ≤ pvWs (l.map api_Node.pv) := by
  induction l with
  | nil => simp [nwts]
  | cons k l ih => 
    have := nwt_pv k
    simp only [nwts, List.map_cons, pvWs]; omega
theorem step_w {s : step_Step} {k : Nat} (h : pvW s.pv ≤ k) : nwts s.Nodes ≤ k ∧ s.Name.length ≤ k ∧ s.Value.length ≤ k := by
  have := nwts_pv s.Nodes
  rw [step_Step.pv_eq] at h
  simp only [pvW, pvWs] at h
  omega

end Go.Proofs.YtclohbgnaopjfaaDoor
