/- TokenEnds, plainly. -/
import Derived.Test.YtlgjbmgmoaphjaaDoorTokEnds
import Derived.Test.YtlgjbmgmoaphjaaDoorMade
namespace Go.Proofs.YtlgjbmgmoaphjaaDoor
set_option linter.unusedSimpArgs false
set_option linter.unusedVariables false
open Go

theorem get_some' {α : Type} {l : List α} {i : Nat} (h : i < l.length) : ∃ x, l[i]? = some x := ⟨l[i], List.getElem?_eq_getElem h⟩

theorem ends_l0 (x y : List token_Token) (n : Nat) (hn : n ≤ x.length) (hn' : n ≤ y.length) (hb : n ≤ 1073741824) (heq : ∀ i < n, x[i]? = y[i]?) : ∀ (f i k : Nat), n - i ≤ f → f < k → i ≤ n → diptychlaw3_TokenEnds_l0 x y (n : Int) k (i : Int) = some (.inr ())
  | _, _, 0, _, h, _ => by omega
  | 0, i, k + 1, h, _, hi => by
    have g : decide ((i : Int) < (n : Int)) = false := by simp; omega
    rw [diptychlaw3_TokenEnds_l0, g]
    rfl
  | f + 1, i, k + 1, h, hk, hi => by
    by_cases hlt : i < n
    · have g : decide ((i : Int) < (n : Int)) = true := by simp; omega
      obtain ⟨u, hu⟩ := get_some' (l := x) (i := i) (by omega)
      have hv : y[i]? = some u := by rw [← heq i hlt]; exact hu
      rw [diptychlaw3_TokenEnds_l0, g]
      simp only [if_true]
      rw [rd_nat hu, rd_nat hv]
      simp only [Option.bind_some, tok_eq, decide_true, bne_self_eq_false, Bool.false_eq_true, if_false]
      rw [w64_eq (by omega)]
      have := ends_l0 x y n hn hn' hb heq f (i + 1) k (by omega) (by omega) (by omega)
      have e : ((i + 1 : Nat) : Int) = (i : Int) + 1 := by omega
      rw [e] at this
      exact this
    · have g : decide ((i : Int) < (n : Int)) = false := by simp; omega
      rw [diptychlaw3_TokenEnds_l0, g]
      rfl
theorem ends_l1 (x y : List token_Token) (m : Nat) (hm : m ≤ x.length) (hm' : m ≤ y.length) (hx : x.length ≤ 1073741824) (hy : y.length ≤ 1073741824) (heq : ∀ i < m, x[x.length - 1 - i]? = y[y.length - 1 - i]?) : ∀ (f i k : Nat), m + 1 - i ≤ f → f < k → 1 ≤ i → i ≤ m + 1 → diptychlaw3_TokenEnds_l1 x y (m : Int) k (i : Int) = some (.inr ())
  | _, _, 0, _, h, _, _ => by omega
  | 0, i, k + 1, h, _, _, hi => by
    have g : decide ((i : Int) ≤ (m : Int)) = false := by simp; omega
    rw [diptychlaw3_TokenEnds_l1, g]
    rfl
  | f + 1, i, k + 1, h, hk, h1, hi => by
    by_cases hlt : i ≤ m
    · have g : decide ((i : Int) ≤ (m : Int)) = true := by simp; omega
      obtain ⟨u, hu⟩ := get_some' (l := x) (i := x.length - i) (by omega)
      have hv : y[y.length - i]? = some u := by
        have := heq (i - 1) (by omega)
        rw [show x.length - 1 - (i - 1) = x.length - i by omega, show y.length - 1 - (i - 1) = y.length - i by omega] at this
        rw [← this]; exact hu
      have ex : (x.length : Int) - (i : Int) = ((x.length - i : Nat) : Int) := by omega
      have ey : (y.length : Int) - (i : Int) = ((y.length - i : Nat) : Int) := by omega
      rw [diptychlaw3_TokenEnds_l1, g]
      simp only [if_true]
      rw [w64_eq (by omega), w64_eq (by omega), ex, ey, rd_nat hu, rd_nat hv]
      simp only [Option.bind_some, tok_eq, decide_true, bne_self_eq_false, Bool.false_eq_true, if_false]
      rw [w64_eq (by omega)]
      have := ends_l1 x y m hm hm' hx hy heq f (i + 1) k (by omega) (by omega) (by omega) (by omega)
      have e : ((i + 1 : Nat) : Int) = (i : Int) + 1 := by omega
      rw [e] at this
      exact this
    · have g : decide ((i : Int) ≤ (m : Int)) = false := by simp; omega
      rw [diptychlaw3_TokenEnds_l1, g]
      rfl

theorem TokenEnds_true (a b : List diptychlaw3_Cell) (hla : a.length ≤ 9223372036854775807) (ha : ∀ y ∈ a, cellIn y) (hlb : b.length ≤ 9223372036854775807) (hb : ∀ y ∈ b, cellIn y) : diptychlaw3_TokenEnds a b = some true := by
  obtain ⟨ka, e1, e2⟩ := made_eq a hla ha
  obtain ⟨kb, f1, f2⟩ := made_eq b hlb hb
  have hwa := e2.wt
  have hwb := f2.wt
  have hsa := nsizes_le' ka
  have hsb := nsizes_le' kb
  have hta := toksL_len ka
  have htb := toksL_len kb
  unfold diptychlaw3_TokenEnds
  rw [tshown_eq]
  simp only [Option.bind_some, Bool.not_true, Bool.false_eq_true, if_false]
  rw [e1]
  simp only [Option.bind_some]
  rw [of_eq ka (by omega), f1]
  simp only [Option.bind_some]
  rw [of_eq kb (by omega)]
  simp only [Option.bind_some]
  have hx : (toksL ka).length ≤ 456 := by omega
  have hy : (toksL kb).length ≤ 456 := by omega
  generalize toksL ka = x at *
  generalize toksL kb = y at *
  have hc := com_le x y
  have hbk := back_le x y
  have hmin : (if (y.length : Int) < (x.length : Int) then (y.length : Int) else (x.length : Int)) = ((min x.length y.length : Nat) : Int) := by split <;> omega
  rw [psame_eq x y (by omega), pback_eq x y (by omega) (by omega)]
  simp only [Option.bind_some]
  have g1 : decide ((com x y : Int) < 0) = false := decide_eq_false (by omega)
  have g2 : decide ((back x y : Int) < 0) = false := decide_eq_false (by omega)
  have g3 : decide ((com x y : Int) + (back x y : Int) > ((min x.length y.length : Nat) : Int)) = false := by simp; omega
  simp only [g1, g2, Bool.false_eq_true, if_false]
  rw [w64_eq (by omega), hmin]
  simp only [g3, Bool.false_eq_true, if_false]
  have l0 : (lim fun k => diptychlaw3_TokenEnds_l0 x y (com x y : Int) k 0) = some (.inr ()) := lim_of (com x y + 1) fun k hk => by
    have := ends_l0 x y (com x y) hc.1 hc.2 (by omega) (fun i hi => com_at hi) (com x y) 0 k (by omega) (by omega) (by omega)
    exact this
  have l1 : (lim fun k => diptychlaw3_TokenEnds_l1 x y (back x y : Int) k 1) = some (.inr ()) := lim_of (back x y + 2) fun k hk => by
    have := ends_l1 x y (back x y) (by omega) (by omega) (by omega) (by omega) (fun i hi => back_at hi) (back x y + 1) 1 k (by omega) (by omega) (by omega) (by omega)
    exact this
  rw [l0, l1]
  simp only [Option.bind_some]
  -- behind what both begin with
  have last : (if ((com x y : Int) + (back x y : Int) == ((min x.length y.length : Nat) : Int)) = true then some true else
      (rd x (w64 (w64 ((x.length : Int) - 1) - (back x y : Int)))).bind fun u => (rd y (w64 (w64 ((y.length : Int) - 1) - (back x y : Int)))).bind fun v => some (((u.Kind == v.Kind) && ((u.Text == v.Text) && (u.Head == v.Head))) != true)) = some true := by
    by_cases he : com x y + back x y = min x.length y.length
    · have g : ((com x y : Int) + (back x y : Int) == ((min x.length y.length : Nat) : Int)) = true := by simp; omega
      rw [if_pos g]
    · have g : ((com x y : Int) + (back x y : Int) == ((min x.length y.length : Nat) : Int)) = false := by simp; omega
      have hmx := back_max (a := x) (b := y) (by omega) (by omega)
      obtain ⟨u, hu⟩ := get_some' (l := x) (i := x.length - 1 - back x y) (by omega)
      obtain ⟨v, hv⟩ := get_some' (l := y) (i := y.length - 1 - back x y) (by omega)
      rw [hu, hv] at hmx
      have hne : u ≠ v := fun e => hmx (by rw [e])
      rw [g]
      simp only [Bool.false_eq_true, if_false]
      rw [show w64 ((x.length : Int) - 1) = (x.length : Int) - 1 from w64_eq (by omega), show w64 ((y.length : Int) - 1) = (y.length : Int) - 1 from w64_eq (by omega), w64_eq (by omega), w64_eq (by omega), show (x.length : Int) - 1 - (back x y : Int) = ((x.length - 1 - back x y : Nat) : Int) by omega, show (y.length : Int) - 1 - (back x y : Int) = ((y.length - 1 - back x y : Nat) : Int) by omega, rd_nat hu, rd_nat hv]
      simp [tok_eq, hne]
  by_cases hx1 : com x y < x.length
  · have k1 : decide ((com x y : Int) < (x.length : Int)) = true := by simp; omega
    by_cases hy1 : com x y < y.length
    · have k2 : decide ((com x y : Int) < (y.length : Int)) = true := by simp; omega
      have hmx := com_max x y hx1 hy1
      obtain ⟨u, hu⟩ := get_some' hx1
      obtain ⟨v, hv⟩ := get_some' hy1
      rw [hu, hv] at hmx
      have hne : u ≠ v := fun e => hmx (by rw [e])
      simp only [k1, k2, if_true]
      rw [rd_nat hu, rd_nat hv]
      simp only [Option.bind_some, tok_eq u v, hne, decide_false, bne_self_eq_false, Bool.false_eq_true, if_false]
      exact last
    · have k2 : decide ((com x y : Int) < (y.length : Int)) = false := by simp; omega
      simp only [k1, k2, if_true, Bool.false_eq_true, if_false]
      exact last
  · have k1 : decide ((com x y : Int) < (x.length : Int)) = false := by simp; omega
    simp only [k1, Bool.false_eq_true, if_false]
    exact last

end Go.Proofs.YtlgjbmgmoaphjaaDoor
