/- TokenRows, plainly. -/
import Derived.Test.YtlgjbmgmoaphjaaDoorTokRef
import Derived.Test.YtlgjbmgmoaphjaaDoorWts
namespace Go.Proofs.YtlgjbmgmoaphjaaDoor
set_option linter.unusedSimpArgs false
set_option linter.unusedVariables false
open Go

theorem short_l0 : ∀ (l : List Str) (i x : Int), ∃ y, diptychlaw3_short_l0 l i x = some y
  | [], i, x => ⟨x, rfl⟩
  | s :: l, i, x => by
    rw [diptychlaw3_short_l0]
    split
    · exact short_l0 l _ _
    · exact ⟨_, rfl⟩
theorem short_l1 : ∀ (l : List api_Attr) (i x : Int), ∃ y, diptychlaw3_short_l1 l i x = some y
  | [], i, x => ⟨x, rfl⟩
  | s :: l, i, x => by
    rw [diptychlaw3_short_l1]
    split
    · exact short_l1 l _ _
    · exact ⟨_, rfl⟩
theorem short_some (n : api_Node) (h : nwt n ≤ 1073741824) : ∃ b, diptychlaw3_short n = some b := by
  have hw := nwt_eq n
  have hm := strsW_len' n.Marks
  have ha := attrsW_len' n.Attrs
  unfold diptychlaw3_short
  rw [chk_eq (by omega)]
  obtain ⟨x, hx⟩ := short_l0 n.Marks 0 (w64 (w64 (500 - (n.Kind.length : Int)) - (n.Text.length : Int)))
  rw [hx]
  simp only [Option.bind_some]
  rw [chk_eq (by omega)]
  obtain ⟨y, hy⟩ := short_l1 n.Attrs 0 x
  rw [hy]
  exact ⟨_, rfl⟩

theorem TokenRows_true (l : List diptychlaw3_Cell) (n : api_Node) (hl : l.length ≤ 9223372036854775807) (h : ∀ y ∈ l, cellIn y) (hn : nwt n ≤ 1048576) : diptychlaw3_TokenRows l n = some true := by
  obtain ⟨b, hb⟩ := short_some n (by omega)
  unfold diptychlaw3_TokenRows
  rw [tshown_eq]
  simp only [Option.bind_some]
  rw [hb]
  simp only [Option.bind_some, Bool.not_true, Bool.false_eq_true, if_false]
  cases b with
  | false => rfl
  | true =>
    simp only [Bool.not_true, Bool.false_eq_true, if_false]
    by_cases hk : (n.Kids.length : Int) > 0
    · have hk' : decide ((n.Kids.length : Int) > 0) = true := by simpa using hk
      simp only [hk', if_true]
    · have hk' : decide ((n.Kids.length : Int) > 0) = false := by simpa using hk
      obtain ⟨ks, e1, e2⟩ := made_eq l hl h
      have hw := e2.wt
      have hsz := nsizes_le' ks
      have htl := toksL_len ks
      have hw1 : nwts [n] ≤ 1073741824 := by simp only [nwts]; omega
      have hsz1 := nsizes_le' [n]
      have htl1 := toksL_len [n]
      simp only [hk', Bool.false_eq_true, if_false, e1, Option.bind_some]
      rw [of_eq ks (by omega), rof_eq ks (by omega)]
      simp only [Option.bind_some]
      rw [tsame_eq _ _ (by omega)]
      simp only [decide_true, Option.bind_some, if_true]
      rw [total_eq ks (by omega)]
      simp only [Option.bind_some, htl, beq_self_eq_true, if_true]
      rw [of_eq [n] hw1, rof_eq [n] hw1]
      simp only [Option.bind_some]
      rw [tsame_eq _ _ (by omega)]
      simp

end Go.Proofs.YtlgjbmgmoaphjaaDoor
