/- Where two nodes differ, read the other way round; and how much they grow. -/
import Derived.Test.YtpjdafhmneiohaaDoorDiffProg
namespace Go.Proofs.YtpjdafhmneiohaaDoor
set_option linter.unusedSimpArgs false
set_option linter.unusedVariables false
open Go Classical

theorem cH_symm : ∀ l r : List api_Node, cH l r = cH r l
  | [], [] => rfl
  | [], y :: r => by simp [cH]
  | x :: l, [] => by simp [cH]
  | x :: l, y :: r => by
    have ih := cH_symm l r
    rw [cH, cH, ih]
    by_cases e : x = y
    · rw [if_pos e, if_pos e.symm]
    · rw [if_neg e, if_neg (Ne.symm e)]
theorem cH_take : ∀ (l r : List api_Node) (k : Nat), k ≤ cH l r → l.take k = r.take k
  | [], r, k, h => by
    have : k = 0 := by simpa [cH] using h
    subst this; simp
  | x :: l, [], k, h => by
    have : k = 0 := by simpa [cH] using h
    subst this; simp
  | x :: l, y :: r, k, h => by
    rw [cH] at h
    split at h
    · rename_i e
      cases k with
      | zero => simp
      | succ k => rw [List.take_succ_cons, List.take_succ_cons, cH_take l r k (by omega), e]
    · have : k = 0 := by omega
      subst this; simp
theorem dh_symm (a b : api_Node) : dh a b = dh b a := cH_symm _ _
theorem dt_symm (a b : api_Node) : dt a b = dt b a := by
  unfold dt cT
  rw [dh_symm a b, cH_symm, Nat.min_comm a.Kids.length]
theorem dm_symm (a b : api_Node) : dm a b = dn b a := by
  unfold dm dn
  rw [dh_symm a b, dt_symm a b]
theorem dn_symm (a b : api_Node) : dn a b = dm b a := (dm_symm b a).symm
theorem alD_symm (a b : api_Node) : alD a b = alD b a := by
  unfold alD
  by_cases h : a.Kind = b.Kind
  · have : isT a = isT b := by unfold isT; rw [h]
    rw [this, decide_eq_decide.2 (show a.Kind = b.Kind ↔ b.Kind = a.Kind from ⟨Eq.symm, Eq.symm⟩), decide_eq_decide.2 (show (a.Attrs.map (·.Name) = b.Attrs.map (·.Name)) ↔ (b.Attrs.map (·.Name) = a.Attrs.map (·.Name)) from ⟨Eq.symm, Eq.symm⟩)]
  · rw [decide_eq_false h, decide_eq_false (Ne.symm h)]
    simp
/-- The kids ahead are the same, and those behind. -/
theorem dif_ahead (a b : api_Node) : a.Kids.take (dh a b) = b.Kids.take (dh a b) := cH_take _ _ _ (Nat.le_refl _)
theorem dif_behind (a b : api_Node) : a.Kids.drop (dh a b + dm a b) = b.Kids.drop (dh a b + dn a b) := by
  have h1 := dt_le a b
  have h2 : dt a b ≤ cH a.Kids.reverse b.Kids.reverse := Nat.min_le_left _ _
  have h3 := cH_take _ _ _ h2
  rw [List.take_reverse, List.take_reverse] at h3
  have h4 := List.reverse_inj.1 h3
  have e1 : dh a b + dm a b = a.Kids.length - dt a b := by unfold dm; omega
  have e2 : dh a b + dn a b = b.Kids.length - dt a b := by unfold dn; omega
  rw [e1, e2]
  exact h4
noncomputable def midA (a b : api_Node) : List api_Node := (a.Kids.take (dh a b + dm a b)).drop (dh a b)
noncomputable def midB (a b : api_Node) : List api_Node := (b.Kids.take (dh a b + dn a b)).drop (dh a b)
theorem mid_symm (a b : api_Node) : midA a b = midB b a := by
  unfold midA midB
  rw [dh_symm a b, dm_symm a b]
theorem kids_split (l : List api_Node) (h m : Nat) : l = l.take h ++ ((l.take (h + m)).drop h ++ l.drop (h + m)) := by
  have h1 : l.take h = (l.take (h + m)).take h := by rw [List.take_take, Nat.min_eq_left (by omega)]
  rw [← List.append_assoc, h1, List.take_append_drop, List.take_append_drop]
theorem kids_a (a b : api_Node) : a.Kids = a.Kids.take (dh a b) ++ (midA a b ++ a.Kids.drop (dh a b + dm a b)) := kids_split _ _ _
theorem kids_b (a b : api_Node) : b.Kids = a.Kids.take (dh a b) ++ (midB a b ++ a.Kids.drop (dh a b + dm a b)) := by
  rw [dif_ahead, dif_behind]
  exact kids_split _ _ _
theorem mid_one {l : List api_Node} {h : Nat} {x : api_Node} (hx : l[h]? = some x) : (l.take (h + 1)).drop h = [x] := by
  have hl : h < l.length := by
    by_cases hc : h < l.length
    · exact hc
    · rw [List.getElem?_eq_none (by omega)] at hx; cases hx
  rw [List.take_add_one, hx, List.drop_append_of_le_length (by simp; omega)]
  simp
theorem Dif.symm {a b s q c m m' e} (D : Dif a b s q c m m' e) : Dif b a s q (c.map fun x => (x.2.1, x.1, x.2.2)) m' m e := by
  induction D with
  | stop a b s h =>
    refine .stop b a s fun ⟨h1, h2, h3⟩ => h ⟨by rw [dm_symm, h2], by rw [dn_symm, h1], fun x y hx hy => ?_⟩
    rw [alD_symm]
    rw [dh_symm] at hx hy
    exact h3 y x hy hx
  | go a b s x y q c m m' e h1 h2 hx hy ha r ih =>
    rw [dif_ahead] at ih
    rw [dh_symm a b] at ih ⊢
    exact .go b a s y x q _ m' m e (by rw [dm_symm, h2]) (by rw [dn_symm, h1]) (by rw [← dh_symm a b]; exact hy) (by rw [← dh_symm a b]; exact hx) (by rw [alD_symm]; exact ha) ih
theorem Dif.grows {a b s q c m m' e} (D : Dif a b s q c m m' e) (ha : isT a = false) (hb : isT b = false) : nsize a + nsizes (midB m m') = nsize b + nsizes (midA m m') := by
  induction D with
  | stop a b s h =>
    rw [size_node ha, size_node hb]
    have h1 := congrArg nsizes (kids_a a b)
    have h2 := congrArg nsizes (kids_b a b)
    rw [nsizes_app, nsizes_app] at h1 h2
    omega
  | go a b s x y q c m m' e h1 h2 hx hy hal r ih =>
    obtain ⟨nx, ny⟩ := alD_nt hal
    have := ih nx ny
    have k1 := congrArg nsizes (kids_a a b)
    have k2 := congrArg nsizes (kids_b a b)
    have e1 : midA a b = [x] := by unfold midA; rw [h1]; exact mid_one hx
    have e2 : midB a b = [y] := by unfold midB; rw [h2]; exact mid_one hy
    rw [e1, nsizes_app, nsizes_app] at k1
    rw [e2, nsizes_app, nsizes_app] at k2
    simp only [nsizes] at k1 k2
    rw [size_node ha, size_node hb]
    omega
theorem attP_swap (f : Int) : ∀ l r : List api_Attr, (attP f l r).length = (attP f r l).length
  | [], [] => rfl
  | [], y :: r => by simp [attP]
  | x :: l, [] => by simp [attP]
  | x :: l, y :: r => by
    have ih := attP_swap f l r
    rw [attP, attP]
    by_cases e : x.Value = y.Value
    · rw [if_pos (by simp [e]), if_pos (by simp [e]), ih]
    · rw [if_neg (by simpa using Ne.symm e), if_neg (by simpa using e), List.length_cons, List.length_cons, ih]
theorem attP_kind (f : Int) : ∀ (l r : List api_Attr), ∀ x ∈ attP f l r, x.Kind = 97 ∧ x.Nodes = []
  | [], r, x, h => by simp [attP] at h
  | y :: l, [], x, h => by simp [attP] at h
  | y :: l, z :: r, x, h => by
    rw [attP] at h
    split at h
    · exact attP_kind f l r x h
    · rcases List.mem_cons.1 h with rfl | h
      · exact ⟨rfl, rfl⟩
      · exact attP_kind f l r x h
theorem att_swap (c : List (api_Node × api_Node × Nat)) : ((c.map fun x => (x.2.1, x.1, x.2.2)).flatMap attC).length = (c.flatMap attC).length := by
  induction c with
  | nil => rfl
  | cons x c ih =>
    rw [List.map_cons, List.flatMap_cons, List.flatMap_cons, List.length_append, List.length_append, ih]
    have := attP_swap ((x.2.2 : Int) - 1) x.1.Attrs x.2.1.Attrs
    unfold attC
    simp only
    omega
theorem att_kind (c : List (api_Node × api_Node × Nat)) : ∀ x ∈ c.flatMap attC, x.Kind = 97 ∧ x.Nodes = [] := by
  intro x hx
  obtain ⟨y, _, hy⟩ := List.mem_flatMap.1 hx
  exact attP_kind _ _ _ x hy

end Go.Proofs.YtpjdafhmneiohaaDoor
