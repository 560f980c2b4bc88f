/- What two nodes have in common, plainly: the program's way and the reference's. -/
import Derived.Test.YtpjdafhmneiohaaDoorPlaceAt
import Derived.Test.YtpjdafhmneiohaaDoorSame
import Derived.Test.YtpjdafhmneiohaaDoorNRight
namespace Go.Proofs.YtpjdafhmneiohaaDoor
set_option linter.unusedSimpArgs false
set_option linter.unusedVariables false
open Go Classical

/-- How many nodes are the same ahead. -/
noncomputable def cH : List api_Node → List api_Node → Nat
  | x :: l, y :: r => if x = y then cH l r + 1 else 0
  | _, _ => 0
theorem cH_le : ∀ l r : List api_Node, cH l r ≤ l.length ∧ cH l r ≤ r.length
  | [], r => by simp [cH]
  | x :: l, [] => by simp [cH]
  | x :: l, y :: r => by
    have := cH_le l r
    rw [cH]
    split <;> simp <;> omega
/-- How many behind, where so many ahead are left out. -/
noncomputable def cT (x y : List api_Node) (h : Nat) : Nat := min (cH x.reverse y.reverse) (min x.length y.length - h)
theorem same_dec (x y : api_Node) (h : nwt x ≤ 1099511627776) : node_Same x y = some (decide (x = y)) := by
  obtain ⟨b, h1, h2⟩ := nsame_tells x y h
  rw [h1]
  by_cases e : x = y
  · rw [h2.2 e]; simp [e]
  · cases b with
    | false => simp [e]
    | true => exact (e (h2.1 rfl)).elim

theorem of_l3 (x y : List api_Node) (hw : nwts x ≤ 1099511627776) (hy : y.length ≤ 1099511627776) : ∀ (sx sy px py : List api_Node) (k : Nat), x = px ++ sx → y = py ++ sy → px.length = py.length → sx.length < k → diff_of_l3 x y k (px.length : Int) = some ((px.length + cH sx sy : Nat) : Int)
  | [], sy, px, py, k, hx, hy', hl, hk => by
    obtain ⟨k, rfl⟩ : ∃ j, k = j + 1 := ⟨k - 1, by omega⟩
    have hxl := congrArg List.length hx
    simp only [List.length_append, List.length_nil] at hxl
    have g : decide ((px.length : Int) < (if (y.length : Int) < (x.length : Int) then (y.length : Int) else (x.length : Int))) = false := by
      simp; split <;> omega
    rw [diff_of_l3, g]
    simp [cH]
  | a :: sx, [], px, py, k, hx, hy', hl, hk => by
    obtain ⟨k, rfl⟩ : ∃ j, k = j + 1 := ⟨k - 1, by omega⟩
    have hyl := congrArg List.length hy'
    simp only [List.length_append, List.length_nil] at hyl
    have g : decide ((px.length : Int) < (if (y.length : Int) < (x.length : Int) then (y.length : Int) else (x.length : Int))) = false := by
      simp; split <;> omega
    rw [diff_of_l3, g]
    simp [cH]
  | a :: sx, b :: sy, px, py, k, hx, hy', hl, hk => by
    obtain ⟨k, rfl⟩ : ∃ j, k = j + 1 := ⟨k - 1, by omega⟩
    have hxl := congrArg List.length hx
    have hyl := congrArg List.length hy'
    simp only [List.length_append, List.length_cons] at hxl hyl hk
    have hlen := nwts_len x
    have g : decide ((px.length : Int) < (if (y.length : Int) < (x.length : Int) then (y.length : Int) else (x.length : Int))) = true := by
      simp; split <;> omega
    have r1 : rd x (px.length : Int) = some a := by rw [hx]; exact rd_mid _ _ _
    have r2 : rd y (px.length : Int) = some b := by rw [hy', hl]; exact rd_mid _ _ _
    have hwa : nwt a ≤ nwts x := nwt_mem (by rw [hx]; simp)
    rw [diff_of_l3, g]
    simp only [if_true, r1, r2, Option.bind_some]
    rw [same_dec a b (by omega)]
    simp only [Option.bind_some]
    by_cases e : a = b
    · have ih := of_l3 x y hw hy sx sy (px ++ [a]) (py ++ [b]) k (by simp [hx]) (by simp [hy']) (by simp [hl]) (by omega)
      have e1 : w64 ((px.length : Int) + 1) = ((px ++ [a]).length : Int) := by rw [w64_eq (by omega)]; simp
      rw [if_pos (by simp [e]), e1, ih, cH, if_pos e]
      simp; omega
    · rw [if_neg (by simp [e]), cH, if_neg e]
      simp
theorem of_l4 (x y : List api_Node) (h : Nat) (hw : nwts x ≤ 1099511627776) (hyl : y.length ≤ 1099511627776) (hh : h ≤ x.length ∧ h ≤ y.length) : ∀ (u v tx ty : List api_Node) (k : Nat), x = u.reverse ++ tx → y = v.reverse ++ ty → tx.length = ty.length → tx.length ≤ min x.length y.length - h → u.length < k →
    diff_of_l4 x y (h : Int) k (tx.length : Int) = some ((tx.length + min (cH u v) (min x.length y.length - h - tx.length) : Nat) : Int) := by
  have hlen := nwts_len x
  have hlim : w64 ((if (y.length : Int) < (x.length : Int) then (y.length : Int) else (x.length : Int)) - (h : Int)) = ((min x.length y.length - h : Nat) : Int) := by
    have : (if (y.length : Int) < (x.length : Int) then (y.length : Int) else (x.length : Int)) = ((min x.length y.length : Nat) : Int) := by split <;> omega
    rw [this, w64_eq (by omega)]
    omega
  intro u
  induction u with
  | nil =>
    intro v tx ty k hx hy hl ht hk
    obtain ⟨k, rfl⟩ : ∃ j, k = j + 1 := ⟨k - 1, by omega⟩
    have hxl := congrArg List.length hx
    simp at hxl
    have g : decide ((tx.length : Int) < ((min x.length y.length - h : Nat) : Int)) = decide (tx.length < min x.length y.length - h) := by simp
    rw [diff_of_l4, hlim]
    by_cases c : tx.length < min x.length y.length - h
    · omega
    · have g : decide ((tx.length : Int) < ((min x.length y.length - h : Nat) : Int)) = false := by simp; omega
      rw [g]
      simp [cH]
  | cons a u ih =>
    intro v tx ty k hx hy hl ht hk
    obtain ⟨k, rfl⟩ : ∃ j, k = j + 1 := ⟨k - 1, by omega⟩
    have hxl := congrArg List.length hx
    have hyl' := congrArg List.length hy
    simp only [List.length_append, List.length_reverse, List.length_cons] at hxl hyl' hk
    rw [diff_of_l4, hlim]
    by_cases c : tx.length < min x.length y.length - h
    · have g : decide ((tx.length : Int) < ((min x.length y.length - h : Nat) : Int)) = true := by simp; omega
      cases v with
      | nil => simp at hyl'; omega
      | cons b v =>
        simp only [List.length_cons] at hyl'
        have hx' : x = u.reverse ++ a :: tx := by rw [hx]; simp
        have hy' : y = v.reverse ++ b :: ty := by rw [hy]; simp
        have i1 : w64 (w64 ((x.length : Int) - 1) - (tx.length : Int)) = (u.reverse.length : Int) := by
          rw [w64_eq (x := (x.length : Int) - 1) (by omega), w64_eq (by omega)]; simp; omega
        have i2 : w64 (w64 ((y.length : Int) - 1) - (tx.length : Int)) = (v.reverse.length : Int) := by
          rw [w64_eq (x := (y.length : Int) - 1) (by omega), w64_eq (by omega)]; simp; omega
        have r1 : rd x (u.reverse.length : Int) = some a := by rw [hx']; exact rd_mid _ _ _
        have r2 : rd y (v.reverse.length : Int) = some b := by rw [hy']; exact rd_mid _ _ _
        have hwa : nwt a ≤ nwts x := nwt_mem (by rw [hx']; simp)
        rw [g]
        simp only [if_true, i1, i2, r1, r2, Option.bind_some]
        rw [same_dec a b (by omega)]
        simp only [Option.bind_some]
        by_cases e : a = b
        · have := ih v (a :: tx) (b :: ty) k hx' hy' (by simp [hl]) (by simp; omega) (by omega)
          have e1 : w64 ((tx.length : Int) + 1) = ((a :: tx).length : Int) := by rw [w64_eq (by omega)]; simp
          rw [if_pos (by simp [e]), e1, this, cH, if_pos e]
          simp only [List.length_cons, Option.some.injEq]
          omega
        · rw [if_neg (by simp [e]), cH, if_neg e]
          simp
    · have g : decide ((tx.length : Int) < ((min x.length y.length - h : Nat) : Int)) = false := by simp; omega
      rw [g]
      simp only [Bool.false_eq_true, if_false, Option.some.injEq]
      omega

end Go.Proofs.YtpjdafhmneiohaaDoor
