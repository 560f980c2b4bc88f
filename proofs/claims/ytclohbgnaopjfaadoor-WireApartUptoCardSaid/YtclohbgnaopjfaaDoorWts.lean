/- Weights of nodes, as arguments. -/
import Derived.Test.YtclohbgnaopjfaaDoorNodeBase
import Derived.Test.YtclohbgnaopjfaaDoorAwR
namespace Go.Proofs.YtclohbgnaopjfaaDoor
set_option linter.unusedSimpArgs false
set_option linter.unusedVariables false
open Go

/-! ### Weights of arguments -/
theorem pvWs_strs (l : List Str) : pvWs (l.map PV.str) = strsW l := by
  induction l with
  | nil => rfl
  | cons s l ih => simp only [List.map_cons, pvWs, pvW, strsW, ih]; omega
theorem pvWs_attrs (l : List api_Attr) : attrsW l ≤ pvWs (l.map api_Attr.pv) := by
  induction l with
  | nil => simp [attrsW]
  | cons a l ih => simp only [List.map_cons, pvWs, pvW, attrsW, api_Attr.pv_eq]; omega
theorem nwt_pv (n : api_Node) : nwt n ≤ pvW n.pv := by
  have hl : ∀ l : List api_Node, (∀ k ∈ l, nwt k ≤ pvW k.pv) → nwts l ≤ pvWs (l.map api_Node.pv) := by
    intro l
    induction l with
    | nil => intro _; simp [nwts]
    | cons k l ih =>
      intro h
      have h1 := h k (by simp)
      have h2 := ih fun x hx => h x (by simp [hx])
      simp only [nwts, List.map_cons, pvWs]; omega
  induction n using api_Node.ind with
  | h n ih =>
    have h1 := hl n.Kids ih
    have h2 := nwt_eq n
    have h3 := pvWs_strs n.Marks
    have h4 := pvWs_attrs n.Attrs
    rw [api_Node.pv_eq]
    simp only [pvW, pvWs, h3]
    omega

end Go.Proofs.YtclohbgnaopjfaaDoor
