/- Can a node be gone through: some number. (diptychlaw12: the law's package.) -/
import Derived.Test.YtclohbgnaopjfaaDoorForm
namespace Go.Proofs.YtclohbgnaopjfaaDoor
set_option linter.unusedSimpArgs false
set_option linter.unusedVariables false
open Go

/-! ### light always answers -/
def lightM : List Str → Int → Int
  | [], x => x
  | y :: l, x => if (decide (x > (0 : Int))) = true then lightM l (w64 ((w64 (x - (1 : Int))) - (y.length : Int))) else x
def lightA : List api_Attr → Int → Int
  | [], x => x
  | y :: l, x => if (decide (x > (0 : Int))) = true then lightA l (w64 ((w64 ((w64 (x - (1 : Int))) - (y.Name.length : Int))) - (y.Value.length : Int))) else x
mutual
def lightN : api_Node → Int → Int
  | ⟨k, t, m, a, ks⟩, x => let y := lightK ks (lightA a (lightM m (w64 ((w64 ((w64 (x - (1 : Int))) - (k.length : Int))) - (t.length : Int))))); if (decide (y < (1 : Int))) = true then -1 else y
def lightK : List api_Node → Int → Int
  | [], x => x
  | n :: l, x => if (decide (x > (0 : Int))) = true then lightK l (lightN n x) else x
end
theorem lightN_eq (n : api_Node) (x : Int) : lightN n x = if (decide (lightK n.Kids (lightA n.Attrs (lightM n.Marks (w64 ((w64 ((w64 (x - (1 : Int))) - (n.Kind.length : Int))) - (n.Text.length : Int))))) < (1 : Int))) = true then -1 else lightK n.Kids (lightA n.Attrs (lightM n.Marks (w64 ((w64 ((w64 (x - (1 : Int))) - (n.Kind.length : Int))) - (n.Text.length : Int))))) := by
  cases n; simp only [lightN]
theorem light_l0 : ∀ (l : List Str) (i x : Int), diptychlaw12_light_l0 l i x = some (lightM l x)
  | [], i, x => rfl
  | y :: l, i, x => by
    rw [diptychlaw12_light_l0, lightM]
    split
    · exact light_l0 l _ _
    · rfl
theorem light_l1 : ∀ (l : List api_Attr) (i x : Int), diptychlaw12_light_l1 l i x = some (lightA l x)
  | [], i, x => rfl
  | y :: l, i, x => by
    rw [diptychlaw12_light_l1, lightA]
    split
    · exact light_l1 l _ _
    · rfl
theorem light_l2 (f : api_Node → Int → Option Int) : ∀ (l : List api_Node) (i x : Int), (∀ k ∈ l, ∀ x, f k x = some (lightN k x)) → diptychlaw12_light_l2 f l i x = some (lightK l x)
  | [], i, x, _ => by rw [diptychlaw12_light_l2, lightK]
  | y :: l, i, x, h => by
    rw [diptychlaw12_light_l2, lightK]
    split
    · rw [h y (by simp)]
      exact light_l2 f l _ _ fun k hk => h k (by simp [hk])
    · rfl
theorem light_k (n : api_Node) : nwt n ≤ 1099511627776 → ∀ kr, ndep n ≤ kr → ∀ x, diptychlaw12_light_k kr n x = some (lightN n x) := by
  induction n using api_Node.ind with
  | h n ih =>
    intro hw kr hk x
    have hd := ndep_eq n
    obtain ⟨kr, rfl⟩ : ∃ j, kr = j + 1 := ⟨kr - 1, by omega⟩
    have hwt := nwt_eq n
    have hl := nwts_len n.Kids
    have hm := strsW_n n.Marks
    have ha := attrsW_n n.Attrs
    rw [diptychlaw12_light_k, chk_eq (by omega), light_l0]
    simp only [Option.bind_some]
    rw [chk_eq (by omega), light_l1]
    simp only [Option.bind_some]
    rw [chk_eq (by omega), light_l2 (diptychlaw12_light_k kr) n.Kids 0 _ (fun k hkk x => ih k hkk (by have := nwt_mem hkk; omega) kr (by have := ndep_mem hkk; omega) x)]
    simp only [Option.bind_some]
    rw [lightN_eq]
    split <;> rfl
theorem light_eq (n : api_Node) (h : nwt n ≤ 1099511627776) (x : Int) : diptychlaw12_light n x = some (lightN n x) := by
  unfold diptychlaw12_light
  exact lim_of (ndep n) fun kr hk => light_k n h kr hk x

end Go.Proofs.YtclohbgnaopjfaaDoor
