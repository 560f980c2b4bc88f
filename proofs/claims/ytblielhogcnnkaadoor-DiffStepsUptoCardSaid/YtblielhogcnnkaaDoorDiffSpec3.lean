/- Where two nodes differ: the reference's loops. -/
import Derived.Test.YtblielhogcnnkaaDoorDiffSpec2
import Derived.Test.YtblielhogcnnkaaDoorRSameT
namespace Go.Proofs.YtblielhogcnnkaaDoor
set_option linter.unusedSimpArgs false
set_option linter.unusedVariables false
open Go Classical

theorem rsame_dec (x y : api_Node) (h : nwt x ≤ 1099511627776) : diptychref1_Same x y = some (decide (x = y)) := by
  obtain ⟨b, h1, h2⟩ := rsame_tells x y h
  rw [h1]
  by_cases e : x = y
  · rw [h2.2 e]; simp [e]
  · cases b with
    | false => simp [e]
    | true => exact (e (h2.1 rfl)).elim
theorem where_l0 (b : api_Node) : ∀ (sx sy py : List api_Node) (i : Nat), b.Kids = py ++ sy → i = py.length → nwts sx ≤ 1099511627776 → diptychref18_Where_l0 b sx (i : Int) = some ((i + cH sx sy : Nat) : Int)
  | [], sy, py, i, hb, hi, _ => by simp [diptychref18_Where_l0, cH]
  | y :: sx, [], py, i, hb, hi, _ => by
    have hl := congrArg List.length hb
    simp only [List.length_append, List.length_nil] at hl
    have g : decide ((i : Int) < (b.Kids.length : Int)) = false := by simp; omega
    rw [diptychref18_Where_l0, g]
    simp [cH]
  | y :: sx, x :: sy, py, i, hb, hi, hw => by
    have hl := congrArg List.length hb
    simp only [List.length_append, List.length_cons] at hl
    simp only [nwts] at hw
    have g : decide ((i : Int) < (b.Kids.length : Int)) = true := by simp; omega
    have r : rd b.Kids (i : Int) = some x := by rw [hb, hi]; exact rd_mid _ _ _
    rw [diptychref18_Where_l0, g]
    simp only [if_true, r, Option.bind_some]
    rw [rsame_dec y x (by omega)]
    simp only [Option.bind_some]
    by_cases e : y = x
    · have ih := where_l0 b sx sy (py ++ [x]) (i + 1) (by simp [hb]) (by simp [hi]) (by omega)
      have e1 : ((i + 1 : Nat) : Int) = (i : Int) + 1 := by omega
      rw [e1] at ih
      rw [if_pos (by simp [e]), ih, cH, if_pos e]
      congr 2
      omega
    · rw [if_neg (by simp [e]), cH, if_neg e]
      simp
theorem where_l1 (a b : api_Node) (h : Nat) (hw : nwts a.Kids ≤ 1099511627776) (hyl : b.Kids.length ≤ 1099511627776) : ∀ (u v tx ty : List api_Node) (k : Nat), a.Kids = u.reverse ++ tx → b.Kids = v.reverse ++ ty → h ≤ u.length → h ≤ v.length → u.length < k →
    diptychref18_Where_l1 a b (h : Int) k (u.length : Int) (v.length : Int) = some (((u.length - min (cH u v) (min (u.length - h) (v.length - h)) : Nat) : Int), ((v.length - min (cH u v) (min (u.length - h) (v.length - h)) : Nat) : Int)) := by
  intro u
  have hlen := nwts_len a.Kids
  induction u with
  | nil =>
    intro v tx ty k hx hy h1 h2 hk
    obtain ⟨k, rfl⟩ : ∃ j, k = j + 1 := ⟨k - 1, by omega⟩
    simp only [List.length_nil] at h1
    have g : decide ((([] : List api_Node).length : Int) > (h : Int)) = false := by simp
    rw [diptychref18_Where_l1, g]
    simp [cH]
  | cons x u ih =>
    intro v tx ty k hx hy h1 h2 hk
    obtain ⟨k, rfl⟩ : ∃ j, k = j + 1 := ⟨k - 1, by omega⟩
    have hxl := congrArg List.length hx
    have hyl' := congrArg List.length hy
    simp only [List.length_append, List.length_reverse, List.length_cons] at hxl hyl' hk h1
    rw [diptychref18_Where_l1]
    by_cases c1 : h < (x :: u).length
    · have g1 : decide (((x :: u).length : Int) > (h : Int)) = true := by simp at c1 ⊢; omega
      rw [g1]
      simp only [if_true]
      by_cases c2 : h < v.length
      · have g2 : decide ((v.length : Int) > (h : Int)) = true := by simp; omega
        cases v with
        | nil => simp at c2
        | cons y v =>
          simp only [List.length_cons] at hyl' c1 c2 h2
          have hx' : a.Kids = u.reverse ++ x :: tx := by rw [hx]; simp
          have hy' : b.Kids = v.reverse ++ y :: ty := by rw [hy]; simp
          have i1 : w64 (((x :: u).length : Int) - 1) = (u.reverse.length : Int) := by
            simp only [List.length_cons, List.length_reverse]
            rw [w64_eq (by omega)]; omega
          have i2 : w64 (((y :: v).length : Int) - 1) = (v.reverse.length : Int) := by
            simp only [List.length_cons, List.length_reverse]
            rw [w64_eq (by omega)]; omega
          have r1 : rd a.Kids (u.reverse.length : Int) = some x := by rw [hx']; exact rd_mid _ _ _
          have r2 : rd b.Kids (v.reverse.length : Int) = some y := by rw [hy']; exact rd_mid _ _ _
          have hwa : nwt x ≤ nwts a.Kids := nwt_mem (by rw [hx']; simp)
          rw [g2]
          simp only [if_true, i1, i2, r1, r2, Option.bind_some]
          rw [rsame_dec x y (by omega)]
          simp only [Option.bind_some]
          by_cases e : x = y
          · have := ih v (x :: tx) (y :: ty) k hx' hy' (by omega) (by omega) (by omega)
            rw [if_pos (by simp [e]), List.length_reverse, List.length_reverse, this, cH, if_pos e]
            simp only [List.length_cons, Option.some.injEq, Prod.mk.injEq]
            omega
          · rw [if_neg (by simp [e]), cH, if_neg e]
            simp
      · have g2 : decide ((v.length : Int) > (h : Int)) = false := by simp; omega
        rw [g2]
        have : min ((x :: u).length - h) (v.length - h) = 0 := by omega
        simp only [Bool.false_eq_true, if_false, this, Nat.min_zero, Nat.sub_zero]
    · have g1 : decide (((x :: u).length : Int) > (h : Int)) = false := by simp at c1 ⊢; omega
      rw [g1]
      have : min ((x :: u).length - h) (v.length - h) = 0 := by omega
      simp only [Bool.false_eq_true, if_false, this, Nat.min_zero, Nat.sub_zero]

end Go.Proofs.YtblielhogcnnkaaDoor
