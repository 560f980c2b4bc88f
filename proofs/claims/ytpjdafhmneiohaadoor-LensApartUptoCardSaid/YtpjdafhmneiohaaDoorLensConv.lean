/- A lens as the reference has it. -/
import Derived.Test.YtpjdafhmneiohaaDoorLensSame
namespace Go.Proofs.YtpjdafhmneiohaaDoor
set_option linter.unusedSimpArgs false
set_option linter.unusedVariables false
open Go

mutual
def rL : lens_Lens → diptychref13_Lens
  | ⟨p, t, ks⟩ => ⟨rP p, t, rLs ks⟩
def rLs : List lens_Lens → List diptychref13_Lens
  | [] => []
  | l :: r => rL l :: rLs r
end
theorem rL_eq (l : lens_Lens) : rL l = ⟨rP l.Prim, l.Turned, rLs l.Kids⟩ := by cases l; simp only [rL]
theorem rLs_len : ∀ l : List lens_Lens, (rLs l).length = l.length
  | [] => rfl
  | x :: l => by simp [rLs, rLs_len l]
theorem rL_prim (l : lens_Lens) : (rL l).Prim = rP l.Prim := by rw [rL_eq]
theorem asLens_l0 (f : lens_Lens → Option diptychref13_Lens) : ∀ (l : List lens_Lens) (i : Int) (out : List diptychref13_Lens), (∀ k ∈ l, f k = some (rL k)) → out.length + l.length ≤ 1073741824 → diptychlaw13_asLens_l0 f l i out = some (out ++ rLs l)
  | [], i, out, _, _ => by simp [diptychlaw13_asLens_l0, rLs]
  | x :: l, i, out, h, hb => by
    simp only [List.length_cons] at hb
    rw [diptychlaw13_asLens_l0, h x (by simp)]
    simp only [Option.bind_some]
    rw [app_eq (by simp; omega)]
    simp only [Option.bind_some]
    rw [asLens_l0 f l _ _ (fun k hk => h k (by simp [hk])) (by simp; omega)]
    simp [rLs]
theorem asLens_k (l : lens_Lens) : lW l ≤ 1073741824 → ∀ kr, lD l ≤ kr → diptychlaw13_asLens_k kr l = some (rL l) := by
  induction l using lens_Lens.ind with
  | h l ih =>
    intro hw kr hk
    have hd := lD_eq l
    have hwt := lW_eq l
    have hl := lWs_len l.Kids
    obtain ⟨kr, rfl⟩ : ∃ j, kr = j + 1 := ⟨kr - 1, by omega⟩
    rw [diptychlaw13_asLens_k, asPrim_eq]
    simp only [Option.bind_some]
    rw [chk_eq (by omega), asLens_l0 _ l.Kids 0 [] (fun k hkk => ih k hkk (by have := lW_mem hkk; omega) kr (by have := lD_mem hkk; omega)) (by simp; omega), rL_eq]
    rfl
theorem asLens_eq (l : lens_Lens) (h : lW l ≤ 1073741824) : diptychlaw13_asLens l = some (rL l) := by
  unfold diptychlaw13_asLens
  exact lim_of (lD l) fun kr hk => asLens_k l h kr hk
end Go.Proofs.YtpjdafhmneiohaaDoor
