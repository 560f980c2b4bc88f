/- Weights of lenses, as arguments. -/
import Derived.Test.YtpjdafhmneiohaaDoorLensSpec
import Derived.Test.YtpjdafhmneiohaaDoorAwR
namespace Go.Proofs.YtpjdafhmneiohaaDoor
set_option linter.unusedSimpArgs false
set_option linter.unusedVariables false
open Go

theorem pvWs_strs (l : List Str) : pvWs (l.map PV.str) = strsW l := by
  induction l with
  | nil => rfl
  | cons s l ih => simp only [List.map_cons, pvWs, pvW, strsW, ih]; omega
theorem lW_pv (n : lens_Lens) : lW n ≤ pvW n.pv := by
  have hl : ∀ l : List lens_Lens, (∀ k ∈ l, lW k ≤ pvW k.pv) → lWs l ≤ pvWs (l.map lens_Lens.pv) := by
    intro l
    induction l with
    | nil => intro _; simp [lWs]
    | cons k l ih =>
      intro h
      have h1 := h k (by simp)
      have h2 := ih fun x hx => h x (by simp [hx])
      simp only [lWs, List.map_cons, pvWs]; omega
  induction n using lens_Lens.ind with
  | h n ih =>
    have h1 := hl n.Kids ih
    have h2 := lW_eq n
    have h3 := pvWs_strs n.Prim.Values
    have h4 := pvWs_strs n.Prim.To
    unfold pW at h2
    rw [lens_Lens.pv_eq]
    simp only [pvW, pvWs, h3, h4]
    omega

end Go.Proofs.YtpjdafhmneiohaaDoor
