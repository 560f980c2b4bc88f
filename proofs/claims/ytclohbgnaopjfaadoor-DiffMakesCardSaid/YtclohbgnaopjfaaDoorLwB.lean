/- Texts of the proof of diffMakesCard -/
import Derived.Test.YtclohbgnaopjfaaDoorLwA
namespace Go.Proofs.YtclohbgnaopjfaaDoor
set_option linter.unusedSimpArgs false
set_option linter.unusedVariables false
open Go Classical
def amW (T : List Tk) (p : Nat) (nm : Str) (k : Str) (aa : List ze) (i : Nat) (a : ze) : Prop := T[p]? = some (.opn k aa) ∧ aa[i]? = some a ∧ a.Name = nm
theorem aoJ {n : za} {T : List Tk} (h : TD n T) (hw : wD n T ≤ 100000000) (p : Nat) (hp : p ≤ 1048576) {nm v : Str} (hn : isName nm = true) (hv : isValue v = true) :
  (∃ k aa i a, amW T p nm k aa i a) ∨ ∃ e, e ≠ 0 ∧ wZ n ⟨97, (p : Int), 0, [], nm, v⟩ = some (agk, e) := by
 by_cases ho : ∃ k aa i a, amW T p nm k aa i a
 ·exact .inl ho
 ·right
  obtain ⟨e, he, hs⟩ := aw7 h hw ⟨97, (p : Int), 0, [], nm, v⟩ (by simp) fun k aa hk a ha hnm => by
   obtain ⟨i, hi⟩ := List.mem_iff_getElem?.1 ha
   exact ho ⟨k, aa, i, a, by simpa using hk, hi, hnm⟩
  refine ⟨e, he, ?_⟩
  rw [Ka h hw _ (acy hn hv (by omega) (by omega) (by have := adC hn; omega))]
  simp only
  rw [if_neg (by decide), if_pos (by decide), hs]
  rfl
theorem aqH {n : za} {T : List Tk} (h : TD n T) (hw : wD n T ≤ 100000000) {p : Nat} {nm : Str} {k : Str} {aa : List ze} {i : Nat} {a : ze} (ha : amW T p nm k aa i a) {v : Str} (hv : isValue v = true) :
  ∃ N, wZ n ⟨97, (p : Int), 0, [], nm, v⟩ = some (N, 0) ∧ xR n ⟨97, (p : Int), 0, [], nm, v⟩ = some (N, a.Value, 0) ∧ TD N (T.set p (.opn k (VW aa i v))) ∧ N.Kind = n.Kind ∧ N.zh = n.zh ∧ wD N (T.set p (.opn k (VW aa i v))) ≤ wD n T + 40 := by
 obtain ⟨h1, h2, rfl⟩ := ha
 obtain ⟨N, g1, g2, g3, g4, g5, g6⟩ := apy h hw h1 h2 hv
 have := aeE hv
 exact ⟨N, g1, g2, g3, g4, g5, by omega⟩
theorem ar3 {n : za} {T : List Tk} (h : TD n T) (hw : wD n T ≤ 100000000) {p : Nat} {k : Str} {aa : List ze} (hp : T[p]? = some (.opn k aa)) : aa.all (fun x => isValue x.Value) = true ∧ jU (aa.map (·.Name)) = true := by
 obtain ⟨q, x, _, hx, ht, _, rfl⟩ := X3 h hw hp
 obtain ⟨f1, _, _, _, f5, _⟩ := aaL (hx.form h.form) ht
 exact ⟨f1, f5⟩
theorem ayM {T : List Tk} {p : Nat} {nm k : Str} {aa : List ze} {i : Nat} {a : ze} (h : amW T p nm k aa i a) (v : Str) : (T.set p (.opn k (VW aa i v)))[p]? = some (.opn k (VW aa i v)) := by
 have hl := (List.getElem?_eq_some_iff.1 h.1).1
 rw [List.getElem?_set_self hl]
theorem amW.set {T : List Tk} {p : Nat} {nm k : Str} {aa : List ze} {i : Nat} {a : ze} (h : amW T p nm k aa i a) (v : Str) : amW (T.set p (.opn k (VW aa i v))) p nm k (VW aa i v) i { a with Value := v } := by
 refine ⟨ayM h v, ?_, h.2.2⟩
 rw [aiC, if_pos rfl, h.2.1]
 rfl
end Go.Proofs.YtclohbgnaopjfaaDoor
namespace Go.Proofs.YtclohbgnaopjfaaDoor
set_option linter.unusedSimpArgs false
set_option linter.unusedVariables false
open Go Classical
inductive agb (T : List Tk) : zt → Prop
 | rep (f t : Nat) (l : List za) (hft : f ≤ t) (ht : t ≤ T.length) (hl : vE l) (hw : tw (tkL l) ≤ 1000000) : agb T ⟨114, (f : Int), (t : Int), l, [], []⟩
 | attr (p : Int) (nm v : Str) (h1 : -1 ≤ p) (h2 : p ≤ T.length) (hn : isName nm = true) (hv : isValue v = true) : agb T ⟨97, p, 0, [], nm, v⟩
 | mark (k : Int) (x : Str) (a b : Nat) (hk : k = 109 ∨ k = 117) (hx : isName x = true) (hab : a ≤ b) (hb : b ≤ T.length) : agb T ⟨k, (a : Int), (b : Int), [], x, []⟩
theorem atX {n : za} {T : List Tk} (h : TD n T) (hw : wD n T ≤ 500000) (hat : n.zh = []) {s : zt} (hs : agb T s) :
  (∃ e, e ≠ 0 ∧ wZ n s = some (agk, e)) ∨
  ∃ N T', wZ n s = some (N, 0) ∧ TD N T' ∧ N.Kind = n.Kind ∧ N.zh = n.zh ∧ wD N T' ≤ wD n T + tw (tkL s.wO) + 90000 := by
 have hsm := h.small
 cases hs with
 | rep f t l hft ht hl hlw =>
  have hlt := ao5 hl
  rcases anX h (by omega) hft ht hl (by omega) with ⟨P, Y, S, hT, fy, hP, hY⟩ | he
  ·obtain ⟨N, h1, h2, h3, h4, h5, h6⟩ := ake h (by omega) hT fy hl (by omega)
   rw [hP] at h6 hY
   rw [hY] at h6
   by_cases hc : checkN N = 0
   ·right
    rw [if_pos hc] at h6
    refine ⟨N, _, h6, ⟨hc, h2, h5⟩, h3, h4, ?_⟩
    unfold wD at hw ⊢
    rw [h3, h4]
    rw [hT] at hw ⊢
    simp only [JL] at hw ⊢
    omega
   ·left
    rw [if_neg hc] at h6
    exact ⟨checkN N, hc, h6⟩
  ·exact .inl ⟨10, by decide, he⟩
 | attr p nm v h1 h2 hn hv =>
  by_cases hp : p = -1
  ·left
   subst hp
   refine ⟨9, by decide, ?_⟩
   rw [Ka h (by omega) _ (acy hn hv (by omega) (by omega) (by have := adC hn; omega))]
   simp only
   rw [if_neg (by decide), if_pos (by decide), aus h _ rfl hat]
   rfl
  ·obtain ⟨p, rfl⟩ := Int.eq_ofNat_of_zero_le (show 0 ≤ p by omega)
   rcases (aoJ h (by omega) p (by omega) hn hv).symm with ⟨e, he, hap⟩ | ⟨k, aa, i, a, hA⟩
   ·exact .inl ⟨e, he, hap⟩
   ·right
    obtain ⟨N, a1, _, a3, a4, a5, a6⟩ := aqH h (by omega) hA hv
    exact ⟨N, _, a1, a3, a4, a5, by omega⟩
 | mark k x a b hk hx hab hb =>
  right
  have hxl := adC hx
  obtain ⟨N, h1, _, h3, h4, h5⟩ := apd h (by omega) hk hx hxl hab hb
  have hmw := agR k x a b T 0
  have hml : T.length * (1 + x.length) ≤ 3998 * 21 := Nat.mul_le_mul hsm (by omega)
  exact ⟨N, _, h1, h3, h4, h5, by unfold wD; rw [h4, h5]; omega⟩
end Go.Proofs.YtclohbgnaopjfaaDoor
namespace Go.Proofs.YtclohbgnaopjfaaDoor
set_option linter.unusedSimpArgs false
set_option linter.unusedVariables false
open Go
def af4 (x : Option Bool) (p : Prop) : Prop := ∃ b, x = some b ∧ (b = true ↔ p)
theorem af4.yes {x : Option Bool} {p : Prop} (h : af4 x p) (hp : p) : x = some true := by
 obtain ⟨b, rfl, hb⟩ := h
 rw [hb.2 hp]
theorem af4.no {x : Option Bool} {p : Prop} (h : af4 x p) (hp : ¬ p) : x = some false := by
 obtain ⟨b, rfl, hb⟩ := h
 cases b with
 | false => rfl
 | true => exact (hp (hb.1 rfl)).elim
end Go.Proofs.YtclohbgnaopjfaaDoor
namespace Go.Proofs.YtclohbgnaopjfaaDoor
set_option linter.unusedSimpArgs false
set_option linter.unusedVariables false
open Go
theorem auE (b : List ze) : ∀ (suf pre : List ze) (i : Int), i = (pre.length : Int) → b.length = pre.length + suf.length → b.take pre.length = pre → qd b suf i = some (if pre ++ suf = b then .inr () else .inl false)
 | [], pre, i, hi, hl, ht => by
  have : pre = b := by
   rw [← ht, List.take_of_length_le]
   simp at hl; omega
  simp [qd, this]
 | y :: suf, pre, i, hi, hl, ht => by
  simp only [List.length_cons] at hl
  obtain ⟨x, hx⟩ : ∃ x, b[pre.length]? = some x := ⟨b[pre.length], List.getElem?_eq_getElem (by omega)⟩
  rw [qd, hi, xe hx]
  simp only [Option.bind_some]
  have htk : b.take (pre.length + 1) = pre ++ [x] := by
   rw [List.take_add_one, ht, hx]
   rfl
  by_cases hxy : y = x
  ·subst hxy
   simp only [beq_self_eq_true, Bool.and_self, bne_self_eq_false, Bool.false_eq_true, if_false]
   rw [auE b suf (pre ++ [y]) _ (by simp) (by simp; omega) (by simpa using htk)]
   simp
  ·have hn : ¬ pre ++ y :: suf = b := by
    intro h
    rw [← h] at hx
    simp at hx
    exact hxy hx
   have g : (((y.Name == x.Name) && (y.Value == x.Value)) != true) = true := by
    rw [bne_iff_ne, ne_eq, Bool.and_eq_true, beq_iff_eq, beq_iff_eq]
    rintro ⟨h1, h2⟩
    apply hxy
    cases y; cases x
    simp_all
   rw [if_pos g, if_neg hn]
theorem aw3 (a b : List ze) (h : a.length ≤ 9223372036854775807) : af4 (ko a b) (a = b) := by
 unfold ko
 by_cases hl : a.length = b.length
 ·simp only [hl, bne_self_eq_false, Bool.false_eq_true, if_false]
  rw [qJ (by omega), auE b a [] 0 rfl (by simp [hl]) (by simp)]
  by_cases e : a = b
  ·exact ⟨true, by simp [e], by simp [e]⟩
  ·exact ⟨false, by simp [e], by simp [e]⟩
 ·have h1 : ((a.length : Int) != (b.length : Int)) = true := by simp; omega
  have h2 : ¬ a = b := fun e => hl (by rw [e])
  rw [if_pos h1]
  exact ⟨false, rfl, by simp [h2]⟩
theorem asJ (f : za → za → Option Bool) (b : List za) : ∀ (suf pre : List za) (i : Int), i = (pre.length : Int) → b.length = pre.length + suf.length → b.take pre.length = pre → (∀ x ∈ suf, ∀ y, af4 (f x y) (x = y)) → ∃ r, zK b f suf i = some r ∧ ((r = .inr () ∧ pre ++ suf = b) ∨ (r = .inl false ∧ pre ++ suf ≠ b))
 | [], pre, i, hi, hl, ht, _ => by
  have : pre = b := by
   rw [← ht, List.take_of_length_le]
   simp at hl; omega
  exact ⟨_, rfl, .inl ⟨rfl, by simp [this]⟩⟩
 | y :: suf, pre, i, hi, hl, ht, hf => by
  simp only [List.length_cons] at hl
  obtain ⟨x, hx⟩ : ∃ x, b[pre.length]? = some x := ⟨b[pre.length], List.getElem?_eq_getElem (by omega)⟩
  rw [zK, hi, xe hx]
  simp only [Option.bind_some]
  have htk : b.take (pre.length + 1) = pre ++ [x] := by
   rw [List.take_add_one, ht, hx]
   rfl
  by_cases hxy : y = x
  ·subst hxy
   rw [(hf y (by simp) y).yes rfl]
   simp only [Option.bind_some, Bool.not_true, Bool.false_eq_true, if_false]
   obtain ⟨r, h1, h2⟩ := asJ f b suf (pre ++ [y]) ((pre.length : Int) + 1) (by simp) (by simp; omega) (by simpa using htk) fun z hz => hf z (by simp [hz])
   exact ⟨r, h1, by simpa using h2⟩
  ·have hn : ¬ pre ++ y :: suf = b := by
    intro h
    rw [← h] at hx
    simp at hx
    exact hxy hx
   rw [(hf y (by simp) x).no hxy]
   exact ⟨_, rfl, .inr ⟨rfl, hn⟩⟩
theorem aqv (n : za) : nwt n ≤ 1099511627776 → ∀ kr, 2 * yQ n ≤ kr → ∀ m, af4 (vD kr n m) (n = m) := by
 induction n using za.ind with
 | h n ih =>
  intro hw kr hk m
  have hd := xD n
  obtain ⟨kr, rfl⟩ : ∃ j, kr = j + 1 + 1 := ⟨kr - 2, by omega⟩
  have hwt := qi n
  have hl := qx n.Kids
  have hs := aaX n.Marks
  have ha := xq n.zh
  have key : n = m ↔ n.Kind = m.Kind ∧ n.Text = m.Text ∧ n.Marks = m.Marks ∧ n.zh = m.zh ∧ n.Kids = m.Kids := by
   cases n; cases m; simp
  rw [vD]
  by_cases h1 : n.Kind = m.Kind
  ·by_cases h2 : n.Text = m.Text
   ·simp only [h1, h2, beq_self_eq_true, if_true]
    rw [atg _ _ (by omega)]
    simp only [Option.bind_some]
    by_cases h3 : n.Marks = m.Marks
    ·simp only [h3, decide_true, if_true]
     obtain ⟨b, e4, h4⟩ := aw3 n.zh m.zh (by omega)
     rw [e4]
     simp only [Option.bind_some]
     cases b with
     | true =>
      have h4' := h4.1 rfl
      simp only [if_true]
      rw [qa]
      by_cases hkl : n.Kids.length = m.Kids.length
      ·simp only [hkl, bne_self_eq_false, Bool.false_eq_true, if_false]
       obtain ⟨r, e5, h5⟩ := asJ (vD kr) m.Kids n.Kids [] 0 rfl (by simp [hkl]) (by simp) fun k hkk y => ih k hkk (by have := vS hkk; omega) kr (by have := xW hkk; omega) y
       rw [qJ (by omega), e5]
       simp only [List.nil_append] at h5
       rcases h5 with ⟨rfl, h5⟩ | ⟨rfl, h5⟩
       ·exact ⟨true, rfl, by simp [key, h1, h2, h3, h4', h5]⟩
       ·exact ⟨false, rfl, by simp [key, h5]⟩
      ·have g : ((n.Kids.length : Int) != (m.Kids.length : Int)) = true := by simp; omega
       rw [if_pos g]
       exact ⟨false, rfl, by
        simp only [Bool.false_eq_true, false_iff]
        rintro rfl
        exact hkl rfl⟩
     | false =>
      have h4' : ¬ n.zh = m.zh := fun e => by have := h4.2 e; cases this
      exact ⟨false, by simp, by simp [key, h4']⟩
    ·exact ⟨false, by simp [h3], by simp [key, h3]⟩
   ·exact ⟨false, by simp [h1, h2], by simp [key, h2]⟩
  ·exact ⟨false, by simp [h1], by simp [key, h1]⟩
theorem amk (n m : za) (h : nwt n ≤ 1099511627776) : af4 (kZ n m) (n = m) := by
 by_cases e : n = m
 ·refine ⟨true, ?_, by simp [e]⟩
  unfold kZ
  exact yK (2 * yQ n) fun k hk => (aqv n h k hk m).yes e
 ·refine ⟨false, ?_, by simp [e]⟩
  unfold kZ
  exact yK (2 * yQ n) fun k hk => (aqv n h k hk m).no e
end Go.Proofs.YtclohbgnaopjfaaDoor
namespace Go.Proofs.YtclohbgnaopjfaaDoor
set_option linter.unusedSimpArgs false
set_option linter.unusedVariables false
open Go Classical
noncomputable def cH : List za → List za → Nat
 | x :: l, y :: r => if x = y then cH l r + 1 else 0
 | _, _ => 0
theorem awj : ∀ l r : List za, cH l r ≤ l.length ∧ cH l r ≤ r.length
 | [], r => by simp [cH]
 | x :: l, [] => by simp [cH]
 | x :: l, y :: r => by
  have := awj l r
  rw [cH]
  split <;> simp <;> omega
noncomputable def cT (x y : List za) (h : Nat) : Nat := min (cH x.reverse y.reverse) (min x.length y.length - h)
theorem aif (x y : za) (h : nwt x ≤ 1099511627776) : kZ x y = some (decide (x = y)) := by
 obtain ⟨b, h1, h2⟩ := amk x y h
 rw [h1]
 by_cases e : x = y
 ·rw [h2.2 e]; simp [e]
 ·cases b with
  | false => simp [e]
  | true => exact (e (h2.1 rfl)).elim
theorem av5 (x y : List za) (hw : zN x ≤ 1099511627776) (hy : y.length ≤ 1099511627776) : ∀ (sx sy px py : List za) (k : Nat), x = px ++ sx → y = py ++ sy → px.length = py.length → sx.length < k → xG x y k (px.length : Int) = some ((px.length + cH sx sy : Nat) : Int)
 | [], sy, px, py, k, hx, hy', hl, hk => by
  obtain ⟨k, rfl⟩ : ∃ j, k = j + 1 := ⟨k - 1, by omega⟩
  have hxl := congrArg List.length hx
  simp only [List.length_append, List.length_nil] at hxl
  have g : decide ((px.length : Int) < (if (y.length : Int) < (x.length : Int) then (y.length : Int) else (x.length : Int))) = false := by
   simp; split <;> omega
  rw [xG, g]
  simp [cH]
 | a :: sx, [], px, py, k, hx, hy', hl, hk => by
  obtain ⟨k, rfl⟩ : ∃ j, k = j + 1 := ⟨k - 1, by omega⟩
  have hyl := congrArg List.length hy'
  simp only [List.length_append, List.length_nil] at hyl
  have g : decide ((px.length : Int) < (if (y.length : Int) < (x.length : Int) then (y.length : Int) else (x.length : Int))) = false := by
   simp; split <;> omega
  rw [xG, g]
  simp [cH]
 | a :: sx, b :: sy, px, py, k, hx, hy', hl, hk => by
  obtain ⟨k, rfl⟩ : ∃ j, k = j + 1 := ⟨k - 1, by omega⟩
  have hxl := congrArg List.length hx
  have hyl := congrArg List.length hy'
  simp only [List.length_append, List.length_cons] at hxl hyl hk
  have hlen := qx x
  have g : decide ((px.length : Int) < (if (y.length : Int) < (x.length : Int) then (y.length : Int) else (x.length : Int))) = true := by
   simp; split <;> omega
  have r1 : rd x (px.length : Int) = some a := by rw [hx]; exact Qd _ _ _
  have r2 : rd y (px.length : Int) = some b := by rw [hy', hl]; exact Qd _ _ _
  have hwa : nwt a ≤ zN x := vS (by rw [hx]; simp)
  rw [xG, g]
  simp only [if_true, r1, r2, Option.bind_some]
  rw [aif a b (by omega)]
  simp only [Option.bind_some]
  by_cases e : a = b
  ·have ih := av5 x y hw hy sx sy (px ++ [a]) (py ++ [b]) k (by simp [hx]) (by simp [hy']) (by simp [hl]) (by omega)
   have e1 : w64 ((px.length : Int) + 1) = ((px ++ [a]).length : Int) := by rw [zV (by omega)]; simp
   rw [if_pos (by simp [e]), e1, ih, cH, if_pos e]
   simp; omega
  ·rw [if_neg (by simp [e]), cH, if_neg e]
   simp
theorem ayk (x y : List za) (h : Nat) (hw : zN x ≤ 1099511627776) (hyl : y.length ≤ 1099511627776) (hh : h ≤ x.length ∧ h ≤ y.length) : ∀ (u v tx ty : List za) (k : Nat), x = u.reverse ++ tx → y = v.reverse ++ ty → tx.length = ty.length → tx.length ≤ min x.length y.length - h → u.length < k →
  yx x y (h : Int) k (tx.length : Int) = some ((tx.length + min (cH u v) (min x.length y.length - h - tx.length) : Nat) : Int) := by
 have hlen := qx x
 have hlim : w64 ((if (y.length : Int) < (x.length : Int) then (y.length : Int) else (x.length : Int)) - (h : Int)) = ((min x.length y.length - h : Nat) : Int) := by
  have : (if (y.length : Int) < (x.length : Int) then (y.length : Int) else (x.length : Int)) = ((min x.length y.length : Nat) : Int) := by split <;> omega
  rw [this, zV (by omega)]
  omega
 intro u
 induction u with
 | nil =>
  intro v tx ty k hx hy hl ht hk
  obtain ⟨k, rfl⟩ : ∃ j, k = j + 1 := ⟨k - 1, by omega⟩
  have hxl := congrArg List.length hx
  simp at hxl
  have g : decide ((tx.length : Int) < ((min x.length y.length - h : Nat) : Int)) = decide (tx.length < min x.length y.length - h) := by simp
  rw [yx, hlim]
  by_cases c : tx.length < min x.length y.length - h
  ·omega
  ·have g : decide ((tx.length : Int) < ((min x.length y.length - h : Nat) : Int)) = false := by simp; omega
   rw [g]
   simp [cH]
 | cons a u ih =>
  intro v tx ty k hx hy hl ht hk
  obtain ⟨k, rfl⟩ : ∃ j, k = j + 1 := ⟨k - 1, by omega⟩
  have hxl := congrArg List.length hx
  have hyl' := congrArg List.length hy
  simp only [List.length_append, List.length_reverse, List.length_cons] at hxl hyl' hk
  rw [yx, hlim]
  by_cases c : tx.length < min x.length y.length - h
  ·have g : decide ((tx.length : Int) < ((min x.length y.length - h : Nat) : Int)) = true := by simp; omega
   cases v with
   | nil => simp at hyl'; omega
   | cons b v =>
    simp only [List.length_cons] at hyl'
    have hx' : x = u.reverse ++ a :: tx := by rw [hx]; simp
    have hy' : y = v.reverse ++ b :: ty := by rw [hy]; simp
    have i1 : w64 (w64 ((x.length : Int) - 1) - (tx.length : Int)) = (u.reverse.length : Int) := by
     rw [zV (x := (x.length : Int) - 1) (by omega), zV (by omega)]; simp; omega
    have i2 : w64 (w64 ((y.length : Int) - 1) - (tx.length : Int)) = (v.reverse.length : Int) := by
     rw [zV (x := (y.length : Int) - 1) (by omega), zV (by omega)]; simp; omega
    have r1 : rd x (u.reverse.length : Int) = some a := by rw [hx']; exact Qd _ _ _
    have r2 : rd y (v.reverse.length : Int) = some b := by rw [hy']; exact Qd _ _ _
    have hwa : nwt a ≤ zN x := vS (by rw [hx']; simp)
    rw [g]
    simp only [if_true, i1, i2, r1, r2, Option.bind_some]
    rw [aif a b (by omega)]
    simp only [Option.bind_some]
    by_cases e : a = b
    ·have := ih v (a :: tx) (b :: ty) k hx' hy' (by simp [hl]) (by simp; omega) (by omega)
     have e1 : w64 ((tx.length : Int) + 1) = ((a :: tx).length : Int) := by rw [zV (by omega)]; simp
     rw [if_pos (by simp [e]), e1, this, cH, if_pos e]
     simp only [List.length_cons, Option.some.injEq]
     omega
    ·rw [if_neg (by simp [e]), cH, if_neg e]
     simp
  ·have g : decide ((tx.length : Int) < ((min x.length y.length - h : Nat) : Int)) = false := by simp; omega
   rw [g]
   simp only [Bool.false_eq_true, if_false, Option.some.injEq]
   omega
end Go.Proofs.YtclohbgnaopjfaaDoor
namespace Go.Proofs.YtclohbgnaopjfaaDoor
set_option linter.unusedSimpArgs false
set_option linter.unusedVariables false
open Go Classical
def alD (a b : za) : Bool := decide (a.Kind = b.Kind) && !isT a && decide (a.zh.map (·.Name) = b.zh.map (·.Name))
theorem atb (b : List ze) : ∀ (suf pre : List ze) (tb pb : List ze) (i : Int), i = (pre.length : Int) → b = pb ++ tb → pb.length = pre.length → suf.length = tb.length → zM b suf i = some (if suf.map (·.Name) = tb.map (·.Name) then .inr () else .inl false)
 | [], pre, tb, pb, i, hi, hb, hl, hs => by
  have : tb = [] := List.eq_nil_of_length_eq_zero (by simpa using hs.symm)
  subst this
  simp [zM]
 | y :: suf, pre, [], pb, i, hi, hb, hl, hs => by simp at hs
 | y :: suf, pre, x :: tb, pb, i, hi, hb, hl, hs => by
  simp only [List.length_cons] at hs
  have hx : rd b (pre.length : Int) = some x := by rw [hb, ← hl]; exact Qd _ _ _
  rw [zM, hi, hx]
  simp only [Option.bind_some, Vp]
  by_cases e : y.Name = x.Name
  ·rw [if_neg (by simp [e]), atb b suf (pre ++ [y]) tb (pb ++ [x]) _ (by simp) (by simp [hb]) (by simp [hl]) (by omega)]
   simp [e]
  ·rw [if_pos (by simp [e])]
   simp [e]
theorem ak2 (a b : za) (h : a.zh.length ≤ 9223372036854775807) : WZ a b = some (alD a b) := by
 unfold WZ alD
 by_cases hk : a.Kind = b.Kind
 ·rw [if_pos (by simp [hk])]
  cases ht : isT a with
  | true =>
   have : (!(a.Kind == ([116, 101, 120, 116] : Str))) = false := by rw [Z6, ht]; rfl
   rw [this]
   simp
  | false =>
   have : (!(a.Kind == ([116, 101, 120, 116] : Str))) = true := by rw [Z6, ht]; rfl
   rw [this]
   simp only [if_true]
   unfold wo
   by_cases hl : a.zh.length = b.zh.length
   ·simp only [hl, bne_self_eq_false, Bool.false_eq_true, if_false]
    rw [qJ (by omega), atb b.zh a.zh [] b.zh [] 0 rfl rfl rfl hl]
    by_cases e : a.zh.map (·.Name) = b.zh.map (·.Name)
    ·simp [e, hk]
    ·simp [e, hk]
   ·have h1 : ((a.zh.length : Int) != (b.zh.length : Int)) = true := by simp; omega
    have h2 : ¬ a.zh.map (·.Name) = b.zh.map (·.Name) := fun e => hl (by simpa using congrArg List.length e)
    rw [if_pos h1]
    simp [h2, hk]
 ·rw [if_neg (by simp [hk])]
  simp [hk]
theorem apX (l : List za) (f : za → Option za) (hf : ∀ x ∈ l, f x = some x) (hl : l.length ≤ 1099511627776) : ∀ (d i k : Nat), l.length - i ≤ d → d < k → i ≤ l.length → xz l f k (i : Int) l = some l
 | 0, i, k, hd, hk, hi => by
  obtain ⟨k, rfl⟩ : ∃ j, k = j + 1 := ⟨k - 1, by omega⟩
  have g : decide ((i : Int) < (l.length : Int)) = false := by simp; omega
  rw [xz, g]
  simp
 | d + 1, i, k, hd, hk, hi => by
  obtain ⟨k, rfl⟩ : ∃ j, k = j + 1 := ⟨k - 1, by omega⟩
  rw [xz]
  by_cases hlt : i < l.length
  ·have g : decide ((i : Int) < (l.length : Int)) = true := by simp; omega
   have hx : l[i]? = some l[i] := List.getElem?_eq_getElem hlt
   have hw : wr l (i : Int) l[i] = some l := by
    have : wr l (i : Int) l[i] = some (l.set i l[i]) := by
     unfold wr
     rw [if_pos (by omega)]
     simp
    rw [this, List.set_getElem_self]
   have e1 : w64 ((i : Int) + 1) = ((i + 1 : Nat) : Int) := by rw [zV (by omega)]; omega
   rw [g]
   simp only [if_true]
   rw [xe hx]
   simp only [Option.bind_some]
   rw [hf _ (List.getElem_mem hlt)]
   simp only [Option.bind_some]
   rw [hw]
   simp only [Option.bind_some]
   rw [e1]
   exact apX l f hf hl d (i + 1) k (by omega) (by omega) (by omega)
  ·have g : decide ((i : Int) < (l.length : Int)) = false := by simp; omega
   rw [g]
   simp
theorem awr (n : za) : nwt n ≤ 1099511627776 → ∀ kr, yQ n ≤ kr → xn kr n = some n := by
 induction n using za.ind with
 | h n ih =>
  intro hw kr hk
  have hd := xD n
  obtain ⟨kr, rfl⟩ : ∃ j, kr = j + 1 := ⟨kr - 1, by omega⟩
  have hwt := qi n
  have hl := qx n.Kids
  have hm := aaX n.Marks
  have ha := xq n.zh
  rw [xn]
  unfold slices_Clone_string kv qy
  rw [w9 (by simp; omega), w9 (by simp; omega), w9 (by simp; omega)]
  simp only [Option.bind_some, List.nil_append]
  have h0 : ((0 : Nat) : Int) = 0 := rfl
  rw [yK (n.Kids.length + 1) fun k hk' => by
   have := apX n.Kids (xn kr) (fun x hx => ih x hx (by have := vS hx; omega) kr (by have := xW hx; omega)) (by omega) n.Kids.length 0 k (by omega) (by omega) (by omega)
   rwa [h0] at this]
  simp only [Option.bind_some]
  cases n
  rfl
theorem copy_eq (n : za) (h : nwt n ≤ 1099511627776) : Xh n = some n := by
 unfold Xh
 exact yK (yQ n) fun kr hk => awr n h kr hk
end Go.Proofs.YtclohbgnaopjfaaDoor
namespace Go.Proofs.YtclohbgnaopjfaaDoor
set_option linter.unusedSimpArgs false
set_option linter.unusedVariables false
open Go Classical
noncomputable def dh (a b : za) : Nat := cH a.Kids b.Kids
noncomputable def dt (a b : za) : Nat := cT a.Kids b.Kids (dh a b)
noncomputable def dm (a b : za) : Nat := a.Kids.length - dh a b - dt a b
noncomputable def dn (a b : za) : Nat := b.Kids.length - dh a b - dt a b
theorem awf (a b : za) : dh a b ≤ a.Kids.length ∧ dh a b ≤ b.Kids.length := awj _ _
theorem ap3 (a b : za) : dh a b + dt a b ≤ a.Kids.length ∧ dh a b + dt a b ≤ b.Kids.length := by
 have := awf a b
 unfold dt cT
 omega
def aa5 (f : Int) : List ze → List ze → List zt
 | x :: l, y :: r => if (y.Value == x.Value) = true then aa5 f l r else ⟨97, f, 0, [], x.Name, y.Value⟩ :: aa5 f l r
 | _, _ => []
theorem aej (f : Int) : ∀ l r : List ze, (aa5 f l r).length ≤ l.length
 | [], r => by simp [aa5]
 | x :: l, [] => by simp [aa5]
 | x :: l, y :: r => by
  have := aej f l r
  rw [aa5]
  split <;> simp <;> omega
theorem alm (B : List ze) (at' : Int) : ∀ (suf tb pb : List ze) (i : Int) (v : List zt), B = pb ++ tb → i = (pb.length : Int) → suf.length = tb.length → v.length + suf.length ≤ 1099511627776 → qz B at' suf i v = some (v ++ aa5 (w64 (at' - 1)) suf tb)
 | [], tb, pb, i, v, hb, hi, hs, _ => by simp [qz, aa5]
 | y :: suf, [], pb, i, v, hb, hi, hs, _ => by simp at hs
 | y :: suf, x :: tb, pb, i, v, hb, hi, hs, hv => by
  simp only [List.length_cons] at hs hv
  have hl := congrArg List.length hb
  simp only [List.length_append, List.length_cons] at hl
  have g : decide (i < (B.length : Int)) = true := by simp; omega
  have r : rd B i = some x := by rw [hb, hi]; exact Qd _ _ _
  rw [qz, g]
  simp only [if_true, r, Option.bind_some]
  by_cases e : (x.Value == y.Value) = true
  ·rw [if_neg (by simp [e]), alm B at' suf tb (pb ++ [x]) _ v (by simp [hb]) (by simp [hi]) (by omega) (by omega), aa5, if_pos e]
  ·rw [if_pos (by simpa using e), w9 (by simp; omega)]
   simp only [Option.bind_some]
   rw [alm B at' suf tb (pb ++ [x]) _ _ (by simp [hb]) (by simp [hi]) (by omega) (by simp; omega), aa5, if_neg e]
   simp
def aeU (x : za × za × Nat) : List zt := aa5 ((x.2.2 : Int) - 1) x.1.zh x.2.1.zh
inductive Dif : za → za → Nat → List Nat → List (za × za × Nat) → za → za → Nat → Prop
 | stop (a b : za) (s : Nat) (h : ¬ (dm a b = 1 ∧ dn a b = 1 ∧ ∀ x y, a.Kids[dh a b]? = some x → b.Kids[dh a b]? = some y → alD x y = true)) : Dif a b s [] [(a, b, s)] a b s
 | go (a b : za) (s : Nat) (x y : za) (q : List Nat) (c : List (za × za × Nat)) (m m' : za) (e : Nat) (h1 : dm a b = 1) (h2 : dn a b = 1) (hx : a.Kids[dh a b]? = some x) (hy : b.Kids[dh a b]? = some y) (ha : alD x y = true)
   (r : Dif x y (s + zA (a.Kids.take (dh a b)) + 1) q c m m' e) : Dif a b s (dh a b :: q) ((a, b, s) :: c) m m' e
theorem atN : ∀ (d : Nat) (a b : za) (s : Nat), yQ a ≤ d → ∃ q c m m' e, Dif a b s q c m m' e
 | 0, a, b, s, hd => by have := xD a; omega
 | d + 1, a, b, s, hd => by
  by_cases h : dm a b = 1 ∧ dn a b = 1 ∧ ∀ x y, a.Kids[dh a b]? = some x → b.Kids[dh a b]? = some y → alD x y = true
  ·obtain ⟨h1, h2, h3⟩ := h
   have l1 : dh a b < a.Kids.length := by unfold dm at h1; omega
   have l2 : dh a b < b.Kids.length := by unfold dn at h2; omega
   have hx : a.Kids[dh a b]? = some a.Kids[dh a b] := List.getElem?_eq_getElem l1
   have hy : b.Kids[dh a b]? = some b.Kids[dh a b] := List.getElem?_eq_getElem l2
   have hdx := xW (List.mem_of_getElem? hx)
   have := xD a
   obtain ⟨q, c, m, m', e, r⟩ := atN d a.Kids[dh a b] b.Kids[dh a b] (s + zA (a.Kids.take (dh a b)) + 1) (by omega)
   exact ⟨_, _, _, _, _, .go a b s _ _ q c m m' e h1 h2 hx hy (h3 _ _ hx hy) r⟩
  ·exact ⟨_, _, _, _, _, .stop a b s h⟩
theorem alP {a b : za} (h : alD a b = true) : a.zh.length = b.zh.length := by
 unfold alD at h
 simp only [Bool.and_eq_true, decide_eq_true_eq] at h
 simpa using congrArg List.length h.2
theorem apn {a b : za} (h : alD a b = true) : isT a = false ∧ isT b = false := by
 unfold alD at h
 simp only [Bool.and_eq_true, decide_eq_true_eq, Bool.not_eq_true'] at h
 refine ⟨h.1.2, ?_⟩
 have := h.1.2
 unfold isT at this ⊢
 rw [← h.1.1]
 exact this
theorem an9 (a b : za) (hw : nwt a ≤ 1073741824) (hwb : nwt b ≤ 1073741824) :
  (lim fun k => xG a.Kids b.Kids k (0 : Int)) = some ((dh a b : Nat) : Int) ∧ (lim fun k => yx a.Kids b.Kids ((dh a b : Nat) : Int) k (0 : Int)) = some ((dt a b : Nat) : Int) := by
 have w1 := wV a
 have w2 := wV b
 have l1 := qx a.Kids
 have l2 := qx b.Kids
 have hd := awf a b
 constructor
 ·refine yK (a.Kids.length + 1) fun k hk => ?_
  have := av5 a.Kids b.Kids (by omega) (by omega) a.Kids b.Kids [] [] k rfl rfl rfl (by omega)
  simpa [dh] using this
 ·refine yK (a.Kids.length + 1) fun k hk => ?_
  have := ayk a.Kids b.Kids (dh a b) (by omega) (by omega) hd a.Kids.reverse b.Kids.reverse [] [] k (by simp) (by simp) rfl (by simp) (by simp; omega)
  simpa [dt, cT] using this
theorem auR {a b s q c m m' e} (D : Dif a b s q c m m' e) : ∀ (k : Nat) (h0 m0 n0 : Int) (p : List Int) (v : List zt), q.length < k → nwt a ≤ 1073741824 → nwt b ≤ 1073741824 → s + nwt a ≤ 4294967296 → p.length + nwt a ≤ 4294967296 → v.length + nwt a ≤ 4294967296 → a.zh.length = b.zh.length →
  yZ k a.Kind a.Text a.Marks a.zh a.Kids b.Kind b.Text b.Marks b.zh b.Kids (s : Int) h0 m0 n0 p v = some (m.Kids, m'.Kids, m.Kind, m.Text, m.Marks, m.zh, m'.Kind, m'.Text, m'.Marks, m'.zh, (e : Int), ((dh m m' : Nat) : Int), ((dm m m' : Nat) : Int), ((dn m m' : Nat) : Int), p ++ q.map (fun i : Nat => (i : Int)), v ++ c.flatMap aeU) := by
 induction D with
 | stop a b s h =>
  intro k h0 m0 n0 p v hk hwa hwb hs hp hv hal
  obtain ⟨k, rfl⟩ : ∃ j, k = j + 1 := ⟨k - 1, by omega⟩
  have wa := qi a
  have la := xq a.zh
  have l1 := qx a.Kids
  have l2 := qx b.Kids
  have w2 := wV b
  obtain ⟨e1, e2⟩ := an9 a b hwa hwb
  have hd := ap3 a b
  have n1 : w64 (w64 ((a.Kids.length : Int) - ((dh a b : Nat) : Int)) - ((dt a b : Nat) : Int)) = ((dm a b : Nat) : Int) := by
   rw [zV (x := (a.Kids.length : Int) - ((dh a b : Nat) : Int)) (by omega), zV (by omega)]; unfold dm; omega
  have n2 : w64 (w64 ((b.Kids.length : Int) - ((dh a b : Nat) : Int)) - ((dt a b : Nat) : Int)) = ((dn a b : Nat) : Int) := by
   rw [zV (x := (b.Kids.length : Int) - ((dh a b : Nat) : Int)) (by omega), zV (by omega)]; unfold dn; omega
  rw [yZ]
  unfold jQ
  rw [qJ (by omega), alm b.zh (s : Int) a.zh b.zh [] 0 v rfl rfl hal (by omega)]
  simp only [Option.bind_some]
  rw [qJ trivial, e1]
  simp only [Option.bind_some]
  rw [e2]
  simp only [Option.bind_some, n1, n2]
  rw [zV (x := (s : Int) - 1) (by omega)]
  have fin : (some (a.Kids, b.Kids, a.Kind, a.Text, a.Marks, a.zh, b.Kind, b.Text, b.Marks, b.zh, (s : Int), ((dh a b : Nat) : Int), ((dm a b : Nat) : Int), ((dn a b : Nat) : Int), p, v ++ aa5 ((s : Int) - 1) a.zh b.zh) : Option _) = some (a.Kids, b.Kids, a.Kind, a.Text, a.Marks, a.zh, b.Kind, b.Text, b.Marks, b.zh, (s : Int), ((dh a b : Nat) : Int), ((dm a b : Nat) : Int), ((dn a b : Nat) : Int), p ++ ([] : List Nat).map (fun i : Nat => (i : Int)), v ++ [(a, b, s)].flatMap aeU) := by
   simp [aeU]
  rw [← fin]
  by_cases h1 : dm a b = 1
  ·rw [if_neg (by simp [h1])]
   by_cases h2 : dn a b = 1
   ·rw [if_neg (by simp [h2])]
    have k1 : dh a b < a.Kids.length := by unfold dm at h1; omega
    have k2 : dh a b < b.Kids.length := by unfold dn at h2; omega
    have hx : a.Kids[dh a b]? = some a.Kids[dh a b] := List.getElem?_eq_getElem k1
    have hy : b.Kids[dh a b]? = some b.Kids[dh a b] := List.getElem?_eq_getElem k2
    have hwx := vS (List.mem_of_getElem? hx)
    have hlx := xq a.Kids[dh a b].zh
    have hwx2 := qi a.Kids[dh a b]
    rw [xe hx]
    simp only [Option.bind_some]
    rw [xe hy]
    simp only [Option.bind_some]
    rw [ak2 _ _ (by omega)]
    have hf : alD a.Kids[dh a b] b.Kids[dh a b] = false := by
     cases hc : alD a.Kids[dh a b] b.Kids[dh a b] with
     | false => rfl
     | true =>
      exfalso
      refine h ⟨h1, h2, fun x y hx' hy' => ?_⟩
      rw [hx] at hx'
      rw [hy] at hy'
      cases hx'
      cases hy'
      exact hc
    rw [hf]
    simp
   ·rw [if_pos (by simp; omega)]
  ·rw [if_pos (by simp; omega)]
 | go a b s x y q c m m' e h1 h2 hx hy ha r ih =>
  intro k h0 m0 n0 p v hk hwa hwb hs hp hv hal
  simp only [List.length_cons] at hk
  obtain ⟨k, rfl⟩ : ∃ j, k = j + 1 := ⟨k - 1, by omega⟩
  have wa := qi a
  have la := xq a.zh
  have l1 := qx a.Kids
  have l2 := qx b.Kids
  have w2 := wV b
  obtain ⟨e1, e2⟩ := an9 a b hwa hwb
  have hd := ap3 a b
  have n1 : w64 (w64 ((a.Kids.length : Int) - ((dh a b : Nat) : Int)) - ((dt a b : Nat) : Int)) = ((dm a b : Nat) : Int) := by
   rw [zV (x := (a.Kids.length : Int) - ((dh a b : Nat) : Int)) (by omega), zV (by omega)]; unfold dm; omega
  have n2 : w64 (w64 ((b.Kids.length : Int) - ((dh a b : Nat) : Int)) - ((dt a b : Nat) : Int)) = ((dn a b : Nat) : Int) := by
   rw [zV (x := (b.Kids.length : Int) - ((dh a b : Nat) : Int)) (by omega), zV (by omega)]; unfold dn; omega
  have hkw := adu hx
  have hky := vS (List.mem_of_getElem? hy)
  have hlx := xq x.zh
  have hwx2 := qi x
  have hsz := vo (a.Kids.take (dh a b))
  have hap := aej ((s : Int) - 1) a.zh b.zh
  rw [yZ]
  unfold jQ
  rw [qJ (by omega), alm b.zh (s : Int) a.zh b.zh [] 0 v rfl rfl hal (by omega)]
  simp only [Option.bind_some]
  rw [qJ trivial, e1]
  simp only [Option.bind_some]
  rw [e2]
  simp only [Option.bind_some, n1, n2]
  rw [zV (x := (s : Int) - 1) (by omega)]
  rw [if_neg (by simp [h1]), if_neg (by simp [h2]), xe hx]
  simp only [Option.bind_some]
  rw [xe hy]
  simp only [Option.bind_some]
  rw [ak2 _ _ (by omega), ha]
  simp only [Option.bind_some, Bool.not_true, Bool.false_eq_true, if_false]
  rw [w9 (by simp; omega)]
  simp only [Option.bind_some]
  have hsl : sl a.Kids 0 ((dh a b : Nat) : Int) = some (a.Kids.take (dh a b)) := ame (by omega)
  rw [hsl]
  simp only [Option.bind_some]
  rw [QP _ (by omega)]
  simp only [Option.bind_some]
  have es : w64 ((s : Int) + w64 ((zA (a.Kids.take (dh a b)) : Int) + 1)) = ((s + zA (a.Kids.take (dh a b)) + 1 : Nat) : Int) := by
   rw [zV (x := (zA (a.Kids.take (dh a b)) : Int) + 1) (by omega), zV (by omega)]; omega
  rw [es]
  rw [ih k _ _ _ (p ++ [((dh a b : Nat) : Int)]) (v ++ aa5 ((s : Int) - 1) a.zh b.zh) (by omega) (by omega) (by omega) (by omega) (by simp; omega) (by rw [List.length_append]; omega) (alP ha)]
  simp [aeU]
theorem Dif.pre {a b s q c m m' e} (D : Dif a b s q c m m' e) : isT a = false → isT b = false → a.zh.length = b.zh.length → c.length = q.length + 1 ∧ (∃ t t', e = s + t ∧ At a q m t ∧ At b q m' t' ∧ isT m = false ∧ isT m' = false) ∧
  ∀ i, i ≤ q.length → ∃ x y t t', c[i]? = some (x, y, s + t) ∧ At a (q.take i) x t ∧ At b (q.take i) y t' ∧ isT x = false ∧ isT y = false ∧ x.zh.length = y.zh.length := by
 induction D with
 | stop a b s h =>
  intro ha hb hl
  refine ⟨rfl, ⟨0, 0, rfl, .nil _, .nil _, ha, hb⟩, fun i hi => ?_⟩
  simp only [List.length_nil, Nat.le_zero] at hi
  subst hi
  exact ⟨a, b, 0, 0, rfl, .nil _, .nil _, ha, hb, hl⟩
 | go a b s x y q c m m' e h1 h2 hx hy hal r ih =>
  intro ha hb hl
  obtain ⟨nx, ny⟩ := apn hal
  obtain ⟨i1, ⟨t, t', i2, i3, i4, i5, i6⟩, i7⟩ := ih nx ny (alP hal)
  refine ⟨by simp [i1], ⟨_, _, ?_, .cons a (dh a b) x q m t hx ha nx i3, .cons b (dh a b) y q m' t' hy hb ny i4, i5, i6⟩, fun i hi => ?_⟩
  ·omega
  ·cases i with
   | zero => exact ⟨a, b, 0, 0, rfl, .nil _, .nil _, ha, hb, hl⟩
   | succ i =>
    obtain ⟨u, v, w, w', j1, j2, j3, j4, j5, j6⟩ := i7 i (by simpa using hi)
    refine ⟨u, v, zA (a.Kids.take (dh a b)) + 1 + w, _, ?_, .cons a (dh a b) x (q.take i) u w hx ha nx j2, .cons b (dh a b) y (q.take i) v w' hy hb ny j3, j4, j5, j6⟩
    rw [List.getElem?_cons_succ, j1]
    congr 3
    omega
end Go.Proofs.YtclohbgnaopjfaaDoor
namespace Go.Proofs.YtclohbgnaopjfaaDoor
set_option linter.unusedSimpArgs false
set_option linter.unusedVariables false
open Go Classical
theorem Dif.axw {a b s q c m m' e} (D : Dif a b s q c m m' e) : (c.flatMap aeU).length ≤ nwt a ∧ q.length ≤ nwt a := by
 induction D with
 | stop a b s h =>
  have h1 := aej ((s : Int) - 1) a.zh b.zh
  have h2 := xq a.zh
  have h3 := qi a
  simp only [List.flatMap_cons, List.flatMap_nil, List.append_nil, aeU, List.length_nil]
  omega
 | go a b s x y q c m m' e h1 h2 hx hy ha r ih =>
  have k1 := aej ((s : Int) - 1) a.zh b.zh
  have k2 := xq a.zh
  have k3 := qi a
  have k4 := vS (List.mem_of_getElem? hx)
  simp only [List.flatMap_cons, List.length_append, List.length_cons]
  have : (aeU (a, b, s)).length ≤ a.zh.length := k1
  omega
noncomputable def ai8 (m m' : za) (e : Nat) : List zt :=
 if dm m m' + dn m m' = 0 then [] else [⟨114, ((e + zA (m.Kids.take (dh m m')) : Nat) : Int), ((e + zA (m.Kids.take (dh m m')) + zA ((m.Kids.take (dh m m' + dm m m')).drop (dh m m')) : Nat) : Int), (m'.Kids.take (dh m m' + dn m m')).drop (dh m m'), [], []⟩]
theorem aiL {a b q c m m' e} (D : Dif a b 0 q c m m' e) (ha : checkN a = 0) (hb : checkN b = 0) (hal : alD a b = true) (hwa : nwt a ≤ 1048576) (hwb : nwt b ≤ 1048576) :
  xI a b = some (c.flatMap aeU ++ ai8 m m' e, 0) := by
 obtain ⟨na, nb⟩ := apn hal
 have hlen := alP hal
 obtain ⟨w1, w2⟩ := D.axw
 obtain ⟨c1, ⟨t, t', z1, z2, z3, nm, nm'⟩, _⟩ := D.pre na nb hlen
 have z4 := z2.len
 have z5 := z2.sizes
 have z6 := vo a.Kids
 have z7 := wV a
 have z8 := z2.wt
 have z9 := z3.wt
 have x1 := wV m
 have x2 := wV m'
 have x3 := qx m.Kids
 have x4 := qx m'.Kids
 have x5 := ap3 m m'
 have x6 : dh m m' + dm m m' ≤ m.Kids.length := by unfold dm; omega
 have x7 : dh m m' + dn m m' ≤ m'.Kids.length := by unfold dn; omega
 have x8 := acu m.Kids (dh m m')
 have x9 := amP m.Kids (dh m m')
 have wmid : ∀ (l : List za) (i j : Nat), zN ((l.take j).drop i) ≤ zN l := fun l i j => by
  have h1 := kT ((l.take j).take i) ((l.take j).drop i)
  rw [List.take_append_drop] at h1
  have h2 := amP l j
  omega
 have hw1 := wmid m.Kids (dh m m') (dh m m' + dm m m')
 have hw2 := wmid m'.Kids (dh m m') (dh m m' + dn m m')
 have hs1 := vo ((m.Kids.take (dh m m' + dm m m')).drop (dh m m'))
 have hof : aeu a b = some ⟨⟨m.Kind, m.Text, m.Marks, m.zh, m.Kids⟩, ⟨m'.Kind, m'.Text, m'.Marks, m'.zh, m'.Kids⟩, up q, (e : Int), ((dh m m' : Nat) : Int), ((dm m m' : Nat) : Int), ((dn m m' : Nat) : Int), c.flatMap aeU⟩ := by
  unfold aeu
  have h0 : ((0 : Nat) : Int) = 0 := rfl
  rw [yK (q.length + 1) fun k hk => by
   have := auR D k 0 0 0 [] [] (by omega) (by omega) (by omega) (by omega) (by simp; omega) (by simp; omega) hlen
   rw [h0] at this
   exact this]
  simp only [Option.bind_some, List.nil_append]
  rfl
 have hsum : w64 (((dm m m' : Nat) : Int) + ((dn m m' : Nat) : Int)) = ((dm m m' + dn m m' : Nat) : Int) := by rw [zV (by omega)]; omega
 have s1 : sl m.Kids 0 ((dh m m' : Nat) : Int) = some (m.Kids.take (dh m m')) := ame (by omega)
 have i1 : w64 (((dh m m' : Nat) : Int) + ((dm m m' : Nat) : Int)) = ((dh m m' + dm m m' : Nat) : Int) := by rw [zV (by omega)]; omega
 have i2 : w64 (((dh m m' : Nat) : Int) + ((dn m m' : Nat) : Int)) = ((dh m m' + dn m m' : Nat) : Int) := by rw [zV (by omega)]; omega
 have s2 : sl m.Kids ((dh m m' : Nat) : Int) ((dh m m' + dm m m' : Nat) : Int) = some ((m.Kids.take (dh m m' + dm m m')).drop (dh m m')) := JS (by omega) x6
 have s3 : sl m'.Kids ((dh m m' : Nat) : Int) ((dh m m' + dn m m' : Nat) : Int) = some ((m'.Kids.take (dh m m' + dn m m')).drop (dh m m')) := JS (by omega) x7
 have f1 : w64 ((e : Int) + (zA (m.Kids.take (dh m m')) : Int)) = ((e + zA (m.Kids.take (dh m m')) : Nat) : Int) := by rw [zV (by omega)]; omega
 have f2 : w64 (((e + zA (m.Kids.take (dh m m')) : Nat) : Int) + (zA ((m.Kids.take (dh m m' + dm m m')).drop (dh m m')) : Int)) = ((e + zA (m.Kids.take (dh m m')) + zA ((m.Kids.take (dh m m' + dm m m')).drop (dh m m')) : Nat) : Int) := by rw [zV (by omega)]; omega
 unfold xI
 rw [right_eq a (by omega), right_eq b (by omega), ha, hb]
 simp only [Option.bind_some, beq_self_eq_true, Bool.not_true, Bool.false_eq_true, if_false]
 have hlx := xq a.zh
 have hwx2 := qi a
 rw [ak2 a b (by omega), hal]
 simp only [Option.bind_some, Bool.not_true, Bool.false_eq_true, if_false]
 rw [hof]
 simp only [Option.bind_some, hsum]
 by_cases h0 : dm m m' + dn m m' = 0
 ·rw [if_pos (by simp only [beq_iff_eq]; omega)]
  simp [ai8, h0]
 ·rw [if_neg (by simp only [beq_iff_eq]; omega), s1]
  simp only [Option.bind_some]
  rw [QP _ (by omega)]
  simp only [Option.bind_some, i1, i2]
  rw [s2]
  simp only [Option.bind_some]
  rw [QP _ (by omega)]
  simp only [Option.bind_some]
  rw [s3]
  simp only [Option.bind_some]
  rw [copy_eq _ (by rw [qi]; simp only [wQ, wH, List.length_nil]; omega)]
  simp only [Option.bind_some, f1, f2]
  rw [w9 (by simp only [List.length_cons, List.length_nil]; omega), ai8, if_neg h0]
  rfl
end Go.Proofs.YtclohbgnaopjfaaDoor
namespace Go.Proofs.YtclohbgnaopjfaaDoor
set_option linter.unusedSimpArgs false
set_option linter.unusedVariables false
open Go Classical
theorem amc : ∀ l r : List za, cH l r = cH r l
 | [], [] => rfl
 | [], y :: r => by simp [cH]
 | x :: l, [] => by simp [cH]
 | x :: l, y :: r => by
  have ih := amc l r
  rw [cH, cH, ih]
  by_cases e : x = y
  ·rw [if_pos e, if_pos e.symm]
  ·rw [if_neg e, if_neg (Ne.symm e)]
theorem alh : ∀ (l r : List za) (k : Nat), k ≤ cH l r → l.take k = r.take k
 | [], r, k, h => by
  have : k = 0 := by simpa [cH] using h
  subst this; simp
 | x :: l, [], k, h => by
  have : k = 0 := by simpa [cH] using h
  subst this; simp
 | x :: l, y :: r, k, h => by
  rw [cH] at h
  split at h
  ·rename_i e
   cases k with
   | zero => simp
   | succ k => rw [List.take_succ_cons, List.take_succ_cons, alh l r k (by omega), e]
  ·have : k = 0 := by omega
   subst this; simp
theorem aaI (a b : za) : dh a b = dh b a := amc _ _
theorem au5 (a b : za) : dt a b = dt b a := by
 unfold dt cT
 rw [aaI a b, amc, Nat.min_comm a.Kids.length]
theorem al1 (a b : za) : dm a b = dn b a := by
 unfold dm dn
 rw [aaI a b, au5 a b]
theorem amh (a b : za) : dn a b = dm b a := (al1 b a).symm
theorem am2 (a b : za) : alD a b = alD b a := by
 unfold alD
 by_cases h : a.Kind = b.Kind
 ·have : isT a = isT b := by unfold isT; rw [h]
  rw [this, decide_eq_decide.2 (show a.Kind = b.Kind ↔ b.Kind = a.Kind from ⟨Eq.symm, Eq.symm⟩), decide_eq_decide.2 (show (a.zh.map (·.Name) = b.zh.map (·.Name)) ↔ (b.zh.map (·.Name) = a.zh.map (·.Name)) from ⟨Eq.symm, Eq.symm⟩)]
 ·rw [decide_eq_false h, decide_eq_false (Ne.symm h)]
  simp
theorem aky (a b : za) : a.Kids.take (dh a b) = b.Kids.take (dh a b) := alh _ _ _ (Nat.le_refl _)
theorem aos (a b : za) : a.Kids.drop (dh a b + dm a b) = b.Kids.drop (dh a b + dn a b) := by
 have h1 := ap3 a b
 have h2 : dt a b ≤ cH a.Kids.reverse b.Kids.reverse := Nat.min_le_left _ _
 have h3 := alh _ _ _ h2
 rw [List.take_reverse, List.take_reverse] at h3
 have h4 := List.reverse_inj.1 h3
 have e1 : dh a b + dm a b = a.Kids.length - dt a b := by unfold dm; omega
 have e2 : dh a b + dn a b = b.Kids.length - dt a b := by unfold dn; omega
 rw [e1, e2]
 exact h4
noncomputable def agj (a b : za) : List za := (a.Kids.take (dh a b + dm a b)).drop (dh a b)
noncomputable def anz (a b : za) : List za := (b.Kids.take (dh a b + dn a b)).drop (dh a b)
theorem aiq (l : List za) (h m : Nat) : l = l.take h ++ ((l.take (h + m)).drop h ++ l.drop (h + m)) := by
 have h1 : l.take h = (l.take (h + m)).take h := by rw [List.take_take, Nat.min_eq_left (by omega)]
 rw [← List.append_assoc, h1, List.take_append_drop, List.take_append_drop]
theorem auN (a b : za) : a.Kids = a.Kids.take (dh a b) ++ (agj a b ++ a.Kids.drop (dh a b + dm a b)) := aiq _ _ _
theorem asK (a b : za) : b.Kids = a.Kids.take (dh a b) ++ (anz a b ++ a.Kids.drop (dh a b + dm a b)) := by
 rw [aky, aos]
 exact aiq _ _ _
theorem apH {l : List za} {h : Nat} {x : za} (hx : l[h]? = some x) : (l.take (h + 1)).drop h = [x] := by
 have hl : h < l.length := by
  by_cases hc : h < l.length
  ·exact hc
  ·rw [List.getElem?_eq_none (by omega)] at hx; cases hx
 rw [List.take_add_one, hx, List.drop_append_of_le_length (by simp; omega)]
 simp
theorem Dif.symm {a b s q c m m' e} (D : Dif a b s q c m m' e) : Dif b a s q (c.map fun x => (x.2.1, x.1, x.2.2)) m' m e := by
 induction D with
 | stop a b s h =>
  refine .stop b a s fun ⟨h1, h2, h3⟩ => h ⟨by rw [al1, h2], by rw [amh, h1], fun x y hx hy => ?_⟩
  rw [am2]
  rw [aaI] at hx hy
  exact h3 y x hy hx
 | go a b s x y q c m m' e h1 h2 hx hy ha r ih =>
  rw [aky] at ih
  rw [aaI a b] at ih ⊢
  exact .go b a s y x q _ m' m e (by rw [al1, h2]) (by rw [amh, h1]) (by rw [← aaI a b]; exact hy) (by rw [← aaI a b]; exact hx) (by rw [am2]; exact ha) ih
end Go.Proofs.YtclohbgnaopjfaaDoor
namespace Go.Proofs.YtclohbgnaopjfaaDoor
set_option linter.unusedSimpArgs false
set_option linter.unusedVariables false
open Go Classical
inductive GoodS : za → List zt → za → Prop
 | nil (n : za) : GoodS n [] n
 | cons (n a b : za) (T : List Tk) (s : zt) (l : List zt) (h : TD n T) (hw : wD n T ≤ 500000) (ha : n.zh = []) (hs : agb T s) (h1 : wZ n s = some (a, 0)) (h2 : GoodS a l b) : GoodS n (s :: l) b
theorem GoodS.does {n b : za} {l : List zt} (h : GoodS n l b) : Does n l b := by
 induction h with
 | nil n => exact .nil n
 | cons n a b T s l _ _ _ _ h1 _ ih => exact .cons _ _ _ _ _ h1 ih
theorem GoodS.app {n a b : za} {l r : List zt} (h : GoodS n l a) (h2 : GoodS a r b) : GoodS n (l ++ r) b := by
 induction h with
 | nil n => exact h2
 | cons n a' b' T s l g1 g2 g3 g4 g5 _ ih => exact .cons _ _ _ _ _ _ g1 g2 g3 g4 g5 (ih h2)
theorem aua (pre suf : List ze) (x : ze) (v : Str) : VW (pre ++ x :: suf) pre.length v = pre ++ { x with Value := v } :: suf := by
 rw [akn (a := x) (by simp), List.set_append_right _ _ (Nat.le_refl _)]
 simp
theorem ach (P S : List Tk) (k : Str) : ∀ (la lb pre : List ze) (n : za), TD n (P ++ Tk.opn k (pre ++ la) :: S) → wD n (P ++ Tk.opn k (pre ++ la) :: S) + 40 * la.length ≤ 500000 → n.zh = [] → la.map (·.Name) = lb.map (·.Name) → (∀ b ∈ lb, isValue b.Value = true) →
  ∃ N, GoodS n (aa5 (P.length : Int) la lb) N ∧ TD N (P ++ Tk.opn k (pre ++ lb) :: S) ∧ N.Kind = n.Kind ∧ N.zh = [] ∧ wD N (P ++ Tk.opn k (pre ++ lb) :: S) ≤ wD n (P ++ Tk.opn k (pre ++ la) :: S) + 40 * la.length
 | [], [], pre, n, h, hw, ha, _, _ => ⟨n, .nil n, h, rfl, ha, by omega⟩
 | [], y :: lb, pre, n, _, _, _, he, _ => by simp at he
 | x :: la, [], pre, n, _, _, _, he, _ => by simp at he
 | x :: la, y :: lb, pre, n, h, hw, ha, he, hv => by
  simp only [List.map_cons, List.cons.injEq] at he
  simp only [List.length_cons] at hw ⊢
  have hlp : (pre ++ [y]) ++ la = pre ++ y :: la := by simp
  have hlq : (pre ++ [y]) ++ lb = pre ++ y :: lb := by simp
  have vy := hv y (by simp)
  rw [aa5]
  by_cases e : (y.Value == x.Value) = true
  ·rw [if_pos e]
   have hxy : x = y := by
    cases x; cases y
    simp at e he
    simp [e, he.1]
   subst hxy
   obtain ⟨N, g1, g2, g3, g4, g5⟩ := ach P S k la lb (pre ++ [x]) n (by rw [hlp]; exact h) (by rw [hlp]; omega) ha he.2 (fun b hb => hv b (by simp [hb]))
   rw [hlp, hlq] at g5
   rw [hlq] at g2
   exact ⟨N, g1, g2, g3, g4, by omega⟩
  ·rw [if_neg e]
   have hp : (P ++ Tk.opn k (pre ++ x :: la) :: S)[P.length]? = some (.opn k (pre ++ x :: la)) := by simp
   have hA : amW (P ++ Tk.opn k (pre ++ x :: la) :: S) P.length x.Name k (pre ++ x :: la) pre.length x := ⟨hp, by simp, rfl⟩
   obtain ⟨M, m1, _, m3, m4, m5, m6⟩ := aqH h (by omega) hA vy
   rw [aua, set_mid] at m3 m6
   have hy : ({ x with Value := y.Value } : ze) = y := by
    cases x; cases y
    simp at he
    simp [he.1]
   rw [hy] at m3 m6
   obtain ⟨N, g1, g2, g3, g4, g5⟩ := ach P S k la lb (pre ++ [y]) M (by rw [hlp]; exact m3) (by rw [hlp]; omega) (by rw [m5, ha]) he.2 (fun b hb => hv b (by simp [hb]))
   rw [hlp, hlq] at g5
   rw [hlq] at g2
   obtain ⟨_, rise⟩ := ar3 h (by omega) hp
   have hnm : isName x.Name = true := ((QV _).1 rise).1 x.Name (by simp)
   refine ⟨N, .cons _ _ _ _ _ _ h (by omega) ha (.attr _ _ _ (by omega) (by simp only [List.length_append, List.length_cons]; omega) hnm vy) m1 g1, g2, by rw [g3, m4], g4, by omega⟩
theorem Dif.hd {a b s q c m m' e} (D : Dif a b s q c m m' e) : ∃ c', c = (a, b, s) :: c' := by
 cases D with
 | stop => exact ⟨[], rfl⟩
 | go => exact ⟨_, rfl⟩
theorem anh {l : List za} (h : vE l) (i j : Nat) : vE ((l.take j).drop i) := by
 have h1 : vE (l.take j) := vE.left (b := l.drop j) (by rw [List.take_append_drop]; exact h)
 exact vE.right (a := (l.take j).take i) (by rw [List.take_append_drop]; exact h1)
theorem axl {a b s q c m m' e} (D : Dif a b s q c m m' e) : qh a = true → qh b = true → isT a = false → isT b = false → ∀ (n : za) (P S : List Tk), P.length = s → TD n (P ++ (tkL a.Kids ++ S)) → wD n (P ++ (tkL a.Kids ++ S)) + 40 * (c.tail.flatMap fun x => x.1.zh).length ≤ 400000 → n.zh = [] → dpT 0 (P ++ (tkL b.Kids ++ S)) ≤ 39 → (P ++ (tkL b.Kids ++ S)).length ≤ 3998 → tw (P ++ (tkL b.Kids ++ S)) ≤ 1000000 →
  ∃ N, GoodS n (c.tail.flatMap aeU ++ ai8 m m' e) N ∧ TD N (P ++ (tkL b.Kids ++ S)) ∧ N.Kind = n.Kind ∧ N.zh = [] := by
 induction D with
 | stop a b s h =>
  intro fa fb ta tb n P S hP hn hw ha hd hl htw
  simp only [List.tail_cons, List.flatMap_nil, List.nil_append]
  have ka := auN a b
  have kb := asK a b
  have fka := vK fa ta
  have fkb := vK fb tb
  have fmA : vE (agj a b) := anh fka _ _
  have fmB : vE (anz a b) := anh fkb _ _
  have ea : P ++ (tkL a.Kids ++ S) = (P ++ tkL (a.Kids.take (dh a b))) ++ (tkI (items (agj a b)) ++ (tkL (a.Kids.drop (dh a b + dm a b)) ++ S)) := by
   rw [jm]
   conv => lhs; rw [ka, Zi, Zi]
   simp only [List.append_assoc]
  have eb : P ++ (tkL b.Kids ++ S) = (P ++ tkL (a.Kids.take (dh a b))) ++ (tkL (anz a b) ++ (tkL (a.Kids.drop (dh a b + dm a b)) ++ S)) := by
   conv => lhs; rw [kb, Zi, Zi]
   simp only [List.append_assoc]
  by_cases h0 : dm a b + dn a b = 0
  ·have e1 : ai8 a b s = [] := if_pos h0
   have e2 : agj a b = [] := by unfold agj; rw [List.drop_eq_nil_iff]; simp; omega
   have e3 : anz a b = [] := by unfold anz; rw [List.drop_eq_nil_iff]; simp; omega
   rw [e1]
   refine ⟨n, .nil n, ?_, rfl, ha⟩
   rw [eb, e3]
   rw [ea, e2] at hn
   exact hn
  ·have e1 : ai8 a b s = _ := if_neg h0
   rw [e1]
   have htB : tw (tkL (anz a b)) ≤ 1000000 := by
    rw [eb] at htw
    simp only [JL] at htw
    omega
   have hrow := ao5 fmB
   rw [ea] at hn hw
   obtain ⟨N, n1, n2, n3, n4, n5, n6⟩ := ake hn (by omega) rfl (Q6 fmA.form) fmB (by omega)
   have hN : TD N (P ++ (tkL b.Kids ++ S)) := TD.of n1 n2 (by rw [n5, eb]) hd hl
   rw [if_pos hN.ok] at n6
   have hlA := Z5 (a.Kids.take (dh a b))
   have hsz : szI (items (agj a b)) = zA (agj a b) := yH _
   have hTl : ((P ++ tkL (a.Kids.take (dh a b))) ++ (tkI (items (agj a b)) ++ (tkL (a.Kids.drop (dh a b + dm a b)) ++ S))).length = P.length + zA (a.Kids.take (dh a b)) + zA (agj a b) + ((tkL (a.Kids.drop (dh a b + dm a b))).length + S.length) := by
    simp only [List.length_append, aaO, hlA, hsz]; omega
   rw [List.length_append, hlA, hsz, hP] at n6
   refine ⟨N, .cons _ _ _ _ _ _ hn (by omega) ha (.rep _ _ _ (by omega) (by rw [hTl, hP]; unfold agj; omega) fmB htB) n6 (.nil N), hN, n3, by rw [n4, ha]⟩
 | go a b s x y q c m m' e h1 h2 hx hy hal r ih =>
  intro fa fb ta tb n P S hP hn hw ha hd hl htw
  have fka := vK fa ta
  have fkb := vK fb tb
  have fx := fka.form x (List.mem_of_getElem? hx)
  have fy := fkb.form y (List.mem_of_getElem? hy)
  obtain ⟨tx, ty⟩ := apn hal
  have hkk : x.Kind = y.Kind ∧ x.zh.map (·.Name) = y.zh.map (·.Name) := by
   unfold alD at hal
   simp only [Bool.and_eq_true, decide_eq_true_eq] at hal
   exact ⟨hal.1.1, hal.2⟩
  obtain ⟨c', rfl⟩ := r.hd
  simp only [List.tail_cons, List.flatMap_cons] at ih hw ⊢
  have ka := auN a b
  have kb := asK a b
  have eA : agj a b = [x] := by unfold agj; rw [h1]; exact apH hx
  have eB : anz a b = [y] := by unfold anz; rw [h2]; exact apH hy
  rw [eA] at ka
  rw [eB] at kb
  have ea : P ++ (tkL a.Kids ++ S) = (P ++ tkL (a.Kids.take (dh a b))) ++ Tk.opn x.Kind ([] ++ x.zh) :: (tkL x.Kids ++ (Tk.cls :: (tkL (a.Kids.drop (dh a b + dm a b)) ++ S))) := by
   conv => lhs; rw [ka, Zi, Zi, tkL, kg, if_neg (by simp [tx])]
   simp only [List.append_assoc, List.cons_append, List.nil_append, tkL]
  have eb : P ++ (tkL b.Kids ++ S) = (P ++ tkL (a.Kids.take (dh a b)) ++ [Tk.opn x.Kind ([] ++ y.zh)]) ++ (tkL y.Kids ++ (Tk.cls :: (tkL (a.Kids.drop (dh a b + dm a b)) ++ S))) := by
   conv => lhs; rw [kb, Zi, Zi, tkL, kg, if_neg (by simp [ty]), ← hkk.1]
   simp only [List.append_assoc, List.cons_append, List.nil_append, tkL]
  rw [ea] at hn hw
  rw [List.length_append] at hw
  obtain ⟨f1, _, _, _, _, _⟩ := aaL fy ty
  obtain ⟨M, g1, g2, g3, g4, g5⟩ := ach _ _ x.Kind x.zh y.zh [] n hn (by omega) ha hkk.2 (fun z hz => (List.all_eq_true.1 f1) z hz)
  have hlA := Z5 (a.Kids.take (dh a b))
  have hpl : ((P ++ tkL (a.Kids.take (dh a b))).length : Int) = ((s + zA (a.Kids.take (dh a b)) + 1 : Nat) : Int) - 1 := by
   rw [List.length_append, hlA, hP]; omega
  rw [hpl] at g1
  have em : (P ++ tkL (a.Kids.take (dh a b))) ++ Tk.opn x.Kind ([] ++ y.zh) :: (tkL x.Kids ++ (Tk.cls :: (tkL (a.Kids.drop (dh a b + dm a b)) ++ S))) = (P ++ tkL (a.Kids.take (dh a b)) ++ [Tk.opn x.Kind ([] ++ y.zh)]) ++ (tkL x.Kids ++ (Tk.cls :: (tkL (a.Kids.drop (dh a b + dm a b)) ++ S))) := by simp
  rw [em] at g2 g5
  rw [eb] at hd hl htw ⊢
  obtain ⟨N, k1, k2, k3, k4⟩ := ih fx fy tx ty M _ _ (by simp only [List.length_append, List.length_singleton, hlA]; omega) g2 (by omega) g4 hd hl htw
  refine ⟨N, ?_, k2, by rw [k3, g3], k4⟩
  rw [List.append_assoc]
  exact GoodS.app g1 k1
theorem Dif.auw {a b s q c m m' e} (D : Dif a b s q c m m' e) : (c.tail.flatMap fun x => x.1.zh).length ≤ zN a.Kids := by
 induction D with
 | stop a b s h => simp
 | go a b s x y q c m m' e h1 h2 hx hy hal r ih =>
  obtain ⟨c', rfl⟩ := r.hd
  simp only [List.tail_cons, List.flatMap_cons, List.length_append] at ih ⊢
  have k4 := vS (List.mem_of_getElem? hx)
  have k3 := qi x
  have k2 := xq x.zh
  omega
theorem ar0 {a b : za} {A B : List Tk} (ha : TD a A) (hb : TD b B) (hk : a.Kind = b.Kind) (aa : a.zh = []) (ab : b.zh = []) (hwa : wD a A + 40 * zN a.Kids ≤ 400000) (hwb : wD b B ≤ 1000000) :
  ∃ l, xI a b = some (l, 0) ∧ GoodS a l b ∧ l.length ≤ 2000000 ∧ (a = b → l = []) := by
 obtain ⟨q, c, m, m', e, D⟩ := atN (yQ a) a b 0 (Nat.le_refl _)
 have hal : alD a b = true := by unfold alD; simp [hk, aa, ab, ha.nt]
 have wa := ha.wt
 have wb := hb.wt
 have hp := aiL D ha.ok hb.ok hal (by omega) (by omega)
 have hle := D.auw
 obtain ⟨w1, _⟩ := D.axw
 obtain ⟨N, g1, g2, g3, g4⟩ := axl D ha.form hb.form ha.nt hb.nt a [] [] rfl (by simpa [ha.tk] using ha) (by simp only [List.nil_append, List.append_nil, ha.tk]; omega) aa (by simpa [hb.tk] using hb.deep) (by simpa [hb.tk] using hb.small) (by simp only [List.nil_append, List.append_nil, hb.tk]; unfold wD at hwb; omega)
 have hN : N = b := by
  simp only [List.nil_append, List.append_nil, hb.tk] at g2
  exact g2.ext hb (by rw [g3, hk]) (by rw [g4, ab])
 subst hN
 obtain ⟨c', rfl⟩ := D.hd
 have e0 : aeU (a, N, 0) = [] := by unfold aeU; rw [aa, ab]; rfl
 rw [List.flatMap_cons, e0, List.nil_append] at hp
 have hr : (ai8 m m' e).length ≤ 1 := by unfold ai8; split <;> simp
 refine ⟨_, hp, g1, ?_, ?_⟩
 ·simp only [List.flatMap_cons, e0, List.nil_append] at w1
  rw [List.length_append]
  omega
 ·intro hab
  subst hab
  have h0 : dm a a = 0 := by
   have h1 : ∀ l : List za, cH l l = l.length := by
    intro l
    induction l with
    | nil => rfl
    | cons x l ih => simp [cH, ih]
   unfold dm dh
   rw [h1]
   omega
  cases D with
  | stop _ _ _ h =>
   have h1 : dn a a = 0 := by rw [amh]; exact h0
   simp only [List.flatMap_nil, List.nil_append]
   exact if_pos (by omega)
  | go _ _ _ x y q c m m' e h1 => omega
end Go.Proofs.YtclohbgnaopjfaaDoor
namespace Go.Proofs.YtclohbgnaopjfaaDoor
set_option linter.unusedSimpArgs false
set_option linter.unusedVariables false
open Go Classical
abbrev exA : za := ⟨[100, 111, 99], [], [], [], [⟨[112], [], [], [], [⟨vI, [104, 105], [], [], []⟩]⟩, ⟨[113], [], [], [], []⟩]⟩
abbrev exB : za := ⟨[100, 111, 99], [], [], [], [⟨[112], [], [], [], [⟨vI, [104, 111], [], [], []⟩]⟩, ⟨[113], [], [], [], []⟩]⟩
abbrev exP (t : Str) : za := ⟨[112], [], [], [], [⟨vI, t, [], [], []⟩]⟩
theorem ao8 : jV = some true := by
 have c1 : dh exA exB = 0 := by simp [dh, cH]
 have c2 : dt exA exB = 1 := by simp [dt, cT, c1, cH]
 have c3 : dh (exP [104, 105]) (exP [104, 111]) = 0 := by simp [dh, cH]
 have c4 : dt (exP [104, 105]) (exP [104, 111]) = 0 := by simp [dt, cT, cH]
 have m1 : dm exA exB = 1 := by simp [dm, c1, c2]
 have n1 : dn exA exB = 1 := by simp [dn, c1, c2]
 have m2 : dm (exP [104, 105]) (exP [104, 111]) = 1 := by simp [dm, c3, c4]
 have n2 : dn (exP [104, 105]) (exP [104, 111]) = 1 := by simp [dn, c3, c4]
 have D2 : Dif (exP [104, 105]) (exP [104, 111]) (0 + zA (exA.Kids.take (dh exA exB)) + 1) [] [(exP [104, 105], exP [104, 111], 0 + zA (exA.Kids.take (dh exA exB)) + 1)] (exP [104, 105]) (exP [104, 111]) (0 + zA (exA.Kids.take (dh exA exB)) + 1) := by
  refine .stop _ _ _ fun ⟨_, _, h⟩ => ?_
  have := h ⟨vI, [104, 105], [], [], []⟩ ⟨vI, [104, 111], [], [], []⟩ (by rw [c3]; rfl) (by rw [c3]; rfl)
  exact absurd this (by decide)
 have D1 := Dif.go exA exB 0 (exP [104, 105]) (exP [104, 111]) _ _ _ _ _ m1 n1 (by rw [c1]; rfl) (by rw [c1]; rfl) (by decide) D2
 have h := aiL D1 (by decide +kernel) (by decide +kernel) (by decide) (by decide +kernel) (by decide +kernel)
 have hr : ai8 (exP [104, 105]) (exP [104, 111]) (0 + zA (exA.Kids.take (dh exA exB)) + 1) = [⟨114, 1, 3, [⟨vI, [104, 111], [], [], []⟩], [], []⟩] := by
  have z : zA (exA.Kids.take (dh exA exB)) = 0 := by rw [c1]; rfl
  have z2 : zA ([⟨vI, [104, 105], [], [], []⟩] : List za) = 2 := by decide +kernel
  unfold ai8
  rw [m2, n2, c3, z]
  simp [z2, zA]
 rw [hr] at h
 simp only [aeU, aa5, List.flatMap_cons, List.flatMap_nil, List.nil_append] at h
 unfold jV
 rw [h]
 rfl
end Go.Proofs.YtclohbgnaopjfaaDoor
namespace Go.Proofs.YtclohbgnaopjfaaDoor
set_option linter.unusedSimpArgs false
set_option linter.unusedVariables false
open Go
def ack (m : List Str) : Prop := m = [] ∨ m = [[98]] ∨ m = [[105]] ∨ m = [[98], [105]]
inductive BN : za → Prop
 | text (t : Str) (m : List Str) (h1 : t ≠ []) (h2 : Lib.validD t = true) (hm : ack m) : BN ⟨vI, t, m, [], []⟩
 | node (k : Str) (a : List ze) (ks : List za) (hk : isName k = true) (h1 : a.all (fun x => isValue x.Value) = true) (h2 : jU (a.map (·.Name)) = true) (hs : ∀ x ∈ ks, BN x) (hj : ja ks) : BN ⟨k, [], [], a, ks⟩
theorem aeh {k : Str} (h : isName k = true) : (k == vI) = false := by
 unfold isName at h
 simp only [Bool.and_eq_true, decide_eq_true_eq] at h
 simpa using h.2
theorem an8 {m : List Str} (h : ack m) : jU m = true := by
 rcases h with rfl | rfl | rfl | rfl <;> decide +kernel
theorem an6 {m : List Str} (h : ack m) : wQ m ≤ 4 := by
 rcases h with rfl | rfl | rfl | rfl <;> simp [wQ]
theorem aqh : ∀ (l : List za) (last : Option za), (∀ x ∈ l, qh x = true) → ja l → (∀ x y, last = some x → l.head? = some y → wL x y = false) → ym last l = true
 | [], last, _, _, _ => acg last
 | y :: l, last, hf, hj, hl => by
  rw [Kv, hf y (by simp)]
  have h2 : ym (some y) l = true := by
   refine aqh l (some y) (fun x hx => hf x (by simp [hx])) ?_ ?_
   ·cases l with
    | nil => trivial
    | cons z l => exact hj.2
   ·intro x z hx hz
    cases hx
    cases l with
    | nil => cases hz
    | cons z' l => cases hz; exact hj.1
  rw [h2]
  cases last with
  | none => rfl
  | some x => simp [hl x y rfl rfl]
theorem apY {n : za} (h : BN n) : qh n = true := by
 induction h with
 | text t m h1 h2 hm =>
  rw [jy]
  have h3 := an8 hm
  simp [isT, h1, h2, h3]
 | node k a ks hk h1 h2 hs hj ih =>
  rw [jy]
  have hkk : isT (⟨k, [], [], a, ks⟩ : za) = false := aeh hk
  have h3 := aqh ks none ih hj (fun x y hx => by cases hx)
  simp only [hkk, Bool.false_eq_true, if_false, h1, hk, h2, h3]
  decide
theorem auY {n : za} (h : BN n) (ht : isT n = true) : n.Text ≠ [] ∧ Lib.validD n.Text = true ∧ ack n.Marks ∧ n.zh = [] ∧ n.Kids = [] := by
 cases h with
 | text t m h1 h2 hm => exact ⟨h1, h2, hm, rfl, rfl⟩
 | node k a ks hk h1 h2 hs hj => rw [show isT (⟨k, [], [], a, ks⟩ : za) = false from aeh hk] at ht; cases ht
theorem apV {n : za} (h : BN n) : (∀ x ∈ n.Kids, BN x) ∧ ja n.Kids := by
 cases h with
 | text t m h1 h2 hm => exact ⟨by simp, trivial⟩
 | node k a ks hk h1 h2 hs hj => exact ⟨hs, hj⟩
theorem ahK : ∀ (o : List za) (x n : za), ja (o ++ [x]) → wL x n = false → ja (o ++ [x, n])
 | [], x, n, _, h => ⟨h, trivial⟩
 | [a], x, n, h1, h => ⟨h1.1, h, trivial⟩
 | a :: b :: o, x, n, h1, h => ⟨h1.1, ahK (b :: o) x n h1.2 h⟩
theorem akG : ∀ (o : List za) (x n : za), ja (o ++ [x]) → (∀ a, wL a x = wL a n) → ja (o ++ [n])
 | [], x, n, _, _ => trivial
 | [a], x, n, h1, h => ⟨by rw [← h]; exact h1.1, trivial⟩
 | a :: b :: o, x, n, h1, h => ⟨h1.1, akG (b :: o) x n h1.2 h⟩
theorem alr : ∀ (l : List za), (∀ x ∈ l, isT x = false) → ja l
 | [], _ => trivial
 | [a], _ => trivial
 | a :: b :: l, h => ⟨by unfold wL; rw [h a (by simp)]; rfl, alr (b :: l) fun x hx => h x (by simp [hx])⟩
theorem ar7 (o : List za) (n : za) (h : ∀ x ∈ o, BN x) (hj : ja o) (hn : BN n) : (∀ x ∈ joinStep o n, BN x) ∧ ja (joinStep o n) := by
 rcases kK o with rfl | ⟨o, x, rfl⟩
 ·rw [vQ]
  split
  ·exact ⟨by simp, trivial⟩
  ·exact ⟨by simpa using hn, trivial⟩
 ·rw [wW]
  split
  ·exact ⟨h, hj⟩
  ·split
   ·rename_i hc
    simp only [Bool.and_eq_true, decide_eq_true_eq] at hc
    obtain ⟨⟨h1, h2⟩, h3⟩ := hc
    have hx := h x (by simp)
    cases hn with
    | text t m ht hv hm =>
     cases hx with
     | text t' m' ht' hv' hm' =>
      simp only at h3
      subst h3
      refine ⟨fun y hy => ?_, akG o _ _ hj fun a => rfl⟩
      rcases List.mem_append.1 hy with hy | hy
      ·exact h y (by simp [hy])
      ·simp at hy
       subst hy
       exact .text _ _ (by simp [ht']) (by rw [(afd t hv').2]; exact hv) hm
     | node k a ks hk ha hb hs hj' => rw [show isT (⟨k, [], [], a, ks⟩ : za) = false from aeh hk] at h2; cases h2
    | node k a ks hk ha hb hs hj' => rw [show isT (⟨k, [], [], a, ks⟩ : za) = false from aeh hk] at h1; cases h1
   ·rename_i hc
    refine ⟨fun y hy => ?_, ahK o x n hj ?_⟩
    ·rcases List.mem_append.1 hy with hy | hy
     ·exact h y (by simp [hy])
     ·simp at hy
      rcases hy with rfl | rfl
      ·exact h y (by simp)
      ·exact hn
    ·have hc' : (isT n && isT x && decide (x.Marks = n.Marks)) = false := by simpa using hc
     unfold wL
     rw [Bool.and_comm (isT x)]
     exact hc'
theorem awi : ∀ (l o : List za), (∀ x ∈ o, BN x) → ja o → (∀ x ∈ l, BN x) → (∀ x ∈ l.foldl joinStep o, BN x) ∧ ja (l.foldl joinStep o)
 | [], o, h, hj, _ => ⟨h, hj⟩
 | n :: l, o, h, hj, hl => by
  obtain ⟨h1, h2⟩ := ar7 o n h hj (hl n (by simp))
  exact awi l _ h1 h2 fun x hx => hl x (by simp [hx])
theorem ayj (l : List za) (h : ∀ x ∈ l, BN x) : (∀ x ∈ yE l, BN x) ∧ ja (yE l) := awi l [] (by simp) trivial h
theorem Xc (a b : List za) : wK (a ++ b) = max (wK a) (wK b) := by
 induction a with
 | nil => simp [wK]
 | cons n a ih => simp only [List.cons_append, wK, ih]; omega
theorem aiZ (o : List za) (n : za) : wK (joinStep o n) ≤ max (wK o) (yR n) := by
 rcases kK o with rfl | ⟨o, x, rfl⟩
 ·rw [vQ]
  split <;> simp [wK]
 ·rw [wW]
  split
  ·omega
  ·split
   ·rename_i hc
    simp only [Bool.and_eq_true] at hc
    have h1 : yR ({ n with Text := x.Text ++ n.Text } : za) = 0 := by rw [Q9, if_pos (show isT ({ n with Text := x.Text ++ n.Text } : za) = true from hc.1.1)]
    simp only [Xc, wK, h1]
    omega
   ·simp only [Xc, wK]
    omega
theorem ajV : ∀ (l o : List za), wK (l.foldl joinStep o) ≤ max (wK o) (wK l)
 | [], o => by simp [wK]
 | n :: l, o => by
  have h1 := aiZ o n
  have h2 := ajV l (joinStep o n)
  simp only [List.foldl_cons, wK]
  omega
theorem aoH (l : List za) : wK (yE l) ≤ wK l := by
 have := ajV l []
 simpa [yE, wK] using this
structure Book (ks : List za) : Prop where
 bn : ∀ x ∈ ks, BN x
 nt : ∀ x ∈ ks, isT x = false
 wt : zN ks ≤ 2400
 dep : wK ks ≤ 31
abbrev aoG : Str := [100, 111, 99]
theorem auZ {ks : List za} (h : Book ks) : BN ⟨aoG, [], [], [], ks⟩ := .node _ _ _ (by decide +kernel) rfl (by decide +kernel) h.bn (alr ks h.nt)
theorem aof {ks : List za} (h : Book ks) : checkN ⟨aoG, [], [], [], ks⟩ = 0 := by
 have hf := apY (auZ h)
 have hs := vo ks
 have hw := h.wt
 have hdp := h.dep
 have e1 : yR ⟨aoG, [], [], [], ks⟩ = wK ks + 1 := by rw [Q9]; rfl
 have e2 : wP ⟨aoG, [], [], [], ks⟩ = 2 + zA ks := by rw [jS]; rfl
 unfold checkN
 rw [hf, e1, e2, if_neg (by simp), if_neg (by omega), if_neg (by omega)]
end Go.Proofs.YtclohbgnaopjfaaDoor
namespace Go.Proofs.YtclohbgnaopjfaaDoor
set_option linter.unusedSimpArgs false
set_option linter.unusedVariables false
open Go Classical
theorem auq (n : za) : BN n → ∀ c m, Tk.sgn c m ∈ tkN n → ack m := by
 induction n using za.ind with
 | h n ih =>
  intro hb c m hc
  rw [kg] at hc
  cases ht : isT n with
  | true =>
   rw [if_pos ht, List.mem_map] at hc
   obtain ⟨x, _, hx⟩ := hc
   cases hx
   exact (auY hb ht).2.2.1
  | false =>
   simp only [ht, Bool.false_eq_true, if_false, List.mem_cons, reduceCtorEq, false_or, List.mem_append, List.not_mem_nil, or_false] at hc
   have key : ∀ l : List za, (∀ x ∈ l, x ∈ n.Kids) → Tk.sgn c m ∈ tkL l → ack m := by
    intro l
    induction l with
    | nil => intro _ h; simp [tkL] at h
    | cons y l ihl =>
     intro hl h
     rw [tkL, List.mem_append] at h
     rcases h with h | h
     ·exact ih y (hl y (by simp)) ((apV hb).1 y (hl y (by simp))) c m h
     ·exact ihl (fun x hx => hl x (by simp [hx])) h
   exact key n.Kids (fun _ h => h) hc
abbrev akh (ks : List za) : za := ⟨aoG, [], [], [], ks⟩
theorem alG {ks : List za} (h : Book ks) : TD (akh ks) (tkL ks) ∧ wD (akh ks) (tkL ks) ≤ 40000 := by
 refine ⟨⟨aof h, rfl, rfl⟩, ?_⟩
 have h1 := awL 4 ks fun n hn => awy 4 n fun c m hc => an6 (auq n (h.bn n hn) c m hc)
 have := h.wt
 unfold wD
 simp only [wH, List.length_cons, List.length_nil]
 omega
end Go.Proofs.YtclohbgnaopjfaaDoor
namespace Go.Proofs.YtclohbgnaopjfaaDoor
set_option linter.unusedSimpArgs false
set_option linter.unusedVariables false
open Go
theorem akt (f : za → Option Int) : ∀ (l : List za) (i : Int) (d : Nat), (∀ k ∈ l, f k = some (yR k : Int)) → wh f l i (d : Int) = some ((max d (wK l) : Nat) : Int)
 | [], i, d, _ => by simp [wh, wK]
 | n :: l, i, d, h => by
  rw [wh, h n (by simp)]
  simp only [Option.bind_some]
  have e : (if (yR n : Int) > (d : Int) then (yR n : Int) else (d : Int)) = ((max d (yR n) : Nat) : Int) := by split <;> omega
  rw [e, akt f l _ _ fun k hk => h k (by simp [hk])]
  simp only [wK, Option.some.injEq]
  omega
theorem aum (n : za) : nwt n ≤ 1099511627776 → ∀ kr, yQ n ≤ kr → qV kr n = some (yR n : Int) := by
 induction n using za.ind with
 | h n ih =>
  intro hw kr hk
  have hd := xD n
  obtain ⟨kr, rfl⟩ : ∃ j, kr = j + 1 := ⟨kr - 1, by omega⟩
  have hwt := qi n
  have hl := qx n.Kids
  have hdl := ap2 n
  have hdw := apI n
  have en : (n.Kind == ([116, 101, 120, 116] : Str)) = isT n := rfl
  rw [qV, en]
  by_cases ht : isT n = true
  ·simp [ht, Q9 n]
  ·have e := Q9 n
   rw [if_neg ht] at e
   simp only [ht, Bool.false_eq_true, if_false]
   have h0 := akt (qV kr) n.Kids 0 0 (fun k hkk => ih k hkk (by have := vS hkk; omega) kr (by have := xW hkk; omega))
   have h0' : wh (qV kr) n.Kids 0 0 = _ := h0
   rw [qJ (by omega), h0']
   simp only [Option.bind_some, Nat.zero_max]
   rw [zV (by omega), e]
   rfl
theorem aju (n : za) (h : nwt n ≤ 1099511627776) : jg n = some (yR n : Int) := by
 unfold jg
 exact yK (yQ n) fun kr hk => aum n h kr hk
end Go.Proofs.YtclohbgnaopjfaaDoor
namespace Go.Proofs.YtclohbgnaopjfaaDoor
set_option linter.unusedSimpArgs false
set_option linter.unusedVariables false
open Go
theorem aoQ (x : Int) : -9223372036854775808 ≤ w64 x ∧ w64 x ≤ 9223372036854775807 := by
 show -9223372036854775808 ≤ IntKind.wrap .i64 x ∧ IntKind.wrap .i64 x ≤ 9223372036854775807
 rw [IntKind.wrap_i64]; omega
theorem alY {α : Type} (l : List α) (p : Nat) (h : p < l.length) : ∃ x, rd l (p : Int) = some x ∧ x ∈ l := ⟨l[p], xe (List.getElem?_eq_getElem h), List.getElem_mem h⟩
abbrev aot : List Str := [[97], [98, 99], [195, 169], [120, 32, 121], [230, 151, 165, 230, 156, 172]]
abbrev agG : List Str := [[108, 101, 102, 116], [114, 105, 103, 104, 116]]
abbrev alF : List Str := [[], [195, 169], [34, 113, 92], [110, 111, 116, 101]]
abbrev aaJ : Str := [97, 108, 105, 103, 110]
abbrev ae0 : Str := [110, 111, 116, 101]
abbrev awc : Str := [112, 97, 114, 97]
abbrev af1 : Str := [105, 116, 101, 109]
abbrev akM : Str := [108, 105, 115, 116]
theorem as8 {t : Str} (h : t ∈ aot) : t ≠ [] ∧ Lib.validD t = true ∧ t.length ≤ 6 := by
 simp only [aot, List.mem_cons, List.not_mem_nil, or_false] at h
 rcases h with rfl | rfl | rfl | rfl | rfl <;> refine ⟨by simp, by decide +kernel, by simp⟩
theorem aq7 {v w : Str} (hv : v ∈ agG) (hw : w ∈ alF) : ([⟨aaJ, v⟩, ⟨ae0, w⟩] : List ze).all (fun x => isValue x.Value) = true ∧ jU (([⟨aaJ, v⟩, ⟨ae0, w⟩] : List ze).map (·.Name)) = true ∧ wH [⟨aaJ, v⟩, ⟨ae0, w⟩] ≤ 20 := by
 refine ⟨?_, ?_, ?_⟩
 ·have h1 : isValue v = true := by
   simp only [agG, List.mem_cons, List.not_mem_nil, or_false] at hv
   rcases hv with rfl | rfl <;> decide +kernel
  have h2 : isValue w = true := by
   simp only [alF, List.mem_cons, List.not_mem_nil, or_false] at hw
   rcases hw with rfl | rfl | rfl | rfl <;> decide +kernel
  simp [h1, h2]
 ·show jU [aaJ, ae0] = true
  decide +kernel
 ·simp only [agG, alF, List.mem_cons, List.not_mem_nil, or_false] at hv hw
  rcases hv with rfl | rfl <;> rcases hw with rfl | rfl | rfl | rfl <;> simp [wH]
theorem KL (c n : Int) (hc : -9223372036854775808 ≤ c ∧ c ≤ 9223372036854775807) (hn : 0 < n) : ∃ p : Nat, zX c n = some (p : Int) ∧ (p : Int) < n := by
 have key : ∀ x : Int, 0 ≤ x → ∃ p : Nat, x.tmod n = (p : Int) ∧ (p : Int) < n := by
  intro x hx
  obtain ⟨p, hp⟩ := Int.eq_ofNat_of_zero_le (Int.tmod_nonneg n hx)
  exact ⟨p, hp, hp ▸ Int.tmod_lt_of_pos x hn⟩
 unfold zX
 by_cases h : c < 0
 ·obtain ⟨p, h1, h2⟩ := key (0 - (c + 1)) (by omega)
  refine ⟨p, ?_, h2⟩
  simp only [h, decide_true, if_true]
  rw [qJ (by omega), zV (x := c + 1) (by omega), zV (by omega), h1]
 ·obtain ⟨p, h1, h2⟩ := key c (by omega)
  refine ⟨p, ?_, h2⟩
  simp only [h, decide_false, Bool.false_eq_true, if_false]
  rw [qJ (by omega), h1]
def aaV (y : zu) : Prop := (-9223372036854775808 ≤ y.Text ∧ y.Text ≤ 9223372036854775807) ∧ (-9223372036854775808 ≤ y.Marks ∧ y.Marks ≤ 9223372036854775807) ∧ (-9223372036854775808 ≤ y.zh ∧ y.zh ≤ 9223372036854775807) ∧ (-9223372036854775808 ≤ y.In ∧ y.In ≤ 9223372036854775807)
structure BkS (i : Nat) (ts o : List za) : Prop where
 tb : ∀ x ∈ ts, BN x
 tt : ∀ x ∈ ts, isT x = true
 ob : ∀ x ∈ o, BN x
 ont : ∀ x ∈ o, isT x = false
 wt : zN ts + zN o ≤ 60 * i
 dep : wK o ≤ 31
theorem af2 : ∀ (l : List za), (∀ x ∈ l, isT x = true) → wK l = 0
 | [], _ => by simp [wK]
 | n :: l, h => by
  rw [wK, Q9, if_pos (h n (by simp)), af2 l fun x hx => h x (by simp [hx])]
  rfl
theorem aaU {n : za} (h : isT n = false) : yR n = wK n.Kids + 1 := by rw [Q9, h]; rfl
theorem au0 (y : zu) (hy : aaV y) (i : Nat) (hi : i ≤ 41) (ts o : List za) (h : BkS i ts o) : ∃ p, jl y ts = some p ∧ BN p ∧ isT p = false ∧ nwt p ≤ 26 + zN ts ∧ yR p ≤ 1 := by
 obtain ⟨hT, hM, hA, hI⟩ := hy
 have hwt := h.wt
 have hjw := YQ ts
 have hjd := aoH ts
 rw [af2 ts h.tt] at hjd
 obtain ⟨hjb, hja⟩ := ayj ts h.tb
 obtain ⟨p1, e1, b1⟩ := KL y.zh 2 hA (by omega)
 obtain ⟨v, ev, mv⟩ := alY agG p1 (by simp; omega)
 obtain ⟨p2, e2, b2⟩ := KL (w64 (y.zh.tdiv 2)) 4 (aoQ _) (by omega)
 obtain ⟨w, ew, mw⟩ := alY alF p2 (by simp; omega)
 obtain ⟨a1, a2, a3⟩ := aq7 mv mw
 have ht : isT (⟨awc, [], [], [⟨aaJ, v⟩, ⟨ae0, w⟩], yE ts⟩ : za) = false := rfl
 refine ⟨⟨awc, [], [], [⟨aaJ, v⟩, ⟨ae0, w⟩], yE ts⟩, ?_, .node _ _ _ (by decide +kernel) a1 a2 hjb hja, ht, ?_, ?_⟩
 ·unfold jl
  rw [e1]
  simp only [Option.bind_some, ev]
  rw [e2]
  simp only [Option.bind_some, ew]
  rw [join_eq ts (by omega)]
  rfl
 ·rw [qi]
  simp only [wQ, List.length_cons, List.length_nil]
  omega
 ·rw [aaU ht]
  simp only
  omega
theorem agT {k : Str} {ks : List za} (hk : isName k = true) (hl : k.length = 4) (h : ∀ x ∈ ks, BN x) (hn : ∀ x ∈ ks, isT x = false) : BN ⟨k, [], [], [], ks⟩ ∧ isT ⟨k, [], [], [], ks⟩ = false ∧ nwt ⟨k, [], [], [], ks⟩ = 6 + zN ks ∧ yR ⟨k, [], [], [], ks⟩ = wK ks + 1 := by
 have ht : isT (⟨k, [], [], [], ks⟩ : za) = false := aeh hk
 refine ⟨.node _ _ _ hk rfl (by decide +kernel) h (alr ks hn), ht, ?_, aaU ht⟩
 rw [qi]
 simp only [wQ, wH, List.length_nil]
 omega
theorem akz : isName af1 = true := by decide +kernel
theorem ajN : isName akM = true := by decide +kernel
theorem BkS.put {i : Nat} {ts o ts' o' : List za} (h : BkS i ts o) {p : za} (hp : BN p) (ht : isT p = false) (hb : ∀ x ∈ ts', BN x) (htt : ∀ x ∈ ts', isT x = true) (ho : ∀ x ∈ o', x ∈ o) (hw : zN ts' + zN o' + nwt p ≤ 60 * (i + 1)) (hd : yR p ≤ 31) : BkS (i + 1) ts' (o' ++ [p]) := by
 have hdo : ∀ l : List za, (∀ x ∈ l, x ∈ o) → wK l ≤ 31 := by
  intro l
  induction l with
  | nil => simp [wK]
  | cons x l ih =>
   intro hx
   have h1 := ih fun y hy => hx y (by simp [hy])
   have h2 : ∀ r : List za, x ∈ r → yR x ≤ wK r := by
    intro r
    induction r with
    | nil => simp
    | cons z r ih =>
     intro hr
     rw [wK]
     rcases List.mem_cons.1 hr with rfl | hr
     ·omega
     ·have := ih hr; omega
   have h3 := h2 o (hx x (by simp))
   have := h.dep
   rw [wK]
   omega
 refine ⟨hb, htt, fun x hx => ?_, fun x hx => ?_, ?_, ?_⟩
 ·rcases List.mem_append.1 hx with hx | hx
  ·exact h.ob x (ho x hx)
  ·simp at hx; rw [hx]; exact hp
 ·rcases List.mem_append.1 hx with hx | hx
  ·exact h.ont x (ho x hx)
  ·simp at hx; rw [hx]; exact ht
 ·simp only [kT, zN]; omega
 ·have := hdo o' ho
  simp only [Xc, wK]
  omega
theorem auG (y : zu) (hy : aaV y) (i : Nat) (hi : i < 40) (ts o : List za) (h : BkS i ts o) : ∃ ts' o', BkS (i + 1) ts' o' ∧ ∀ suf, zF (y :: suf) (i : Int) ts o = zF suf ((i : Int) + 1) ts' o' := by
 have hy' := hy
 obtain ⟨hT, hM, hA, hI⟩ := hy
 have hwt := h.wt
 have hlo := qx o
 have hlt := qx ts
 obtain ⟨pT, eT, bT⟩ := KL y.Text 5 hT (by omega)
 obtain ⟨tx, et, mt⟩ := alY aot pT (by simp; omega)
 obtain ⟨pM, eM, bM⟩ := KL y.Marks 4 hM (by omega)
 obtain ⟨pI, eI, bI⟩ := KL y.In 5 hI (by omega)
 obtain ⟨t1, t2, t3⟩ := as8 mt
 have hi' : decide ((i : Int) < 40) = true := by simp; omega
 obtain ⟨m1, em1, hm1⟩ : ∃ m, ((zX y.Marks (4 : Int)).bind fun ac3 => if ((akL ac3 (1 : Int)) == (1 : Int)) = true then (app 16 ([] : List Str) [([98] : Str)]).bind fun aoL => some aoL else some ([] : List Str)) = some m ∧ (m = [] ∨ m = [[98]]) := by
  rw [eM]
  simp only [Option.bind_some]
  split
  ·exact ⟨[[98]], by rw [w9 (by simp)]; rfl, .inr rfl⟩
  ·exact ⟨[], rfl, .inl rfl⟩
 obtain ⟨m2, em2, hm2⟩ : ∃ m, ((zX y.Marks (4 : Int)).bind fun adE => if ((akL adE (2 : Int)) == (2 : Int)) = true then (app 16 m1 [([105] : Str)]).bind fun avk => some avk else some m1) = some m ∧ ack m := by
  rw [eM]
  simp only [Option.bind_some]
  rcases hm1 with rfl | rfl
  ·split
   ·exact ⟨[[105]], by rw [w9 (by simp)]; rfl, .inr (.inr (.inl rfl))⟩
   ·exact ⟨[], rfl, .inl rfl⟩
  ·split
   ·exact ⟨[[98], [105]], by rw [w9 (by simp)]; rfl, .inr (.inr (.inr rfl))⟩
   ·exact ⟨[[98]], rfl, .inr (.inl rfl)⟩
 have hmw := an6 hm2
 obtain ⟨n, hn⟩ : ∃ n : za, n = ⟨vI, tx, m2, [], []⟩ := ⟨_, rfl⟩
 have hnB : BN n := by rw [hn]; exact .text _ _ t1 t2 hm2
 have hnT : isT n = true := by rw [hn]; rfl
 have hnW : nwt n ≤ 16 := by rw [hn, qi]; simp only [wH, zN, List.length_cons, List.length_nil]; omega
 have hts : BkS i (ts ++ [n]) o → True := fun _ => trivial
 have start : ∀ suf, zF (y :: suf) (i : Int) ts o = (
   if ((pI : Int) == (0 : Int)) = true then
    zF suf ((i : Int) + 1) (ts ++ [n]) o
   else
    (jl y (ts ++ [n])).bind fun xL =>
    if (decide ((pI : Int) < (3 : Int))) = true then
     (app 104 o [xL]).bind fun avi =>
     zF suf ((i : Int) + 1) ([] : List za) avi
    else
     ((
       if (decide ((w64 ((o.length : Int) - (1 : Int))) ≥ (0 : Int))) = true then
        (rd o (w64 ((o.length : Int) - (1 : Int)))).bind fun alC =>
        if (alC.Kind == ([108, 105, 115, 116] : Str)) = true then
         if ((pI : Int) == (3 : Int)) = true then
          (app 104 ([] : List za) alC.Kids).bind fun aps =>
          (app 104 aps [({ Kind := ([105, 116, 101, 109] : Str), Text := ([] : Str), Marks := [], zh := [], Kids := [xL] } : za)]).bind fun ave =>
          (sl o (0 : Int) (w64 ((o.length : Int) - (1 : Int)))).bind fun avD =>
          (app 104 ([] : List za) avD).bind fun avR =>
          (app 104 avR [{ alC with Kids := ave }]).bind fun avW =>
          some (.inl avW)
         else
          some (.inr ())
        else
         some (.inr ())
       else
        some (.inr ())) : Option ((List za) ⊕ Unit)).bind fun e => match e with
     | .inl anN =>
      zF suf ((i : Int) + 1) ([] : List za) anN
     | .inr _ =>
      if (decide ((w64 ((o.length : Int) - (1 : Int))) ≥ (0 : Int))) = true then
       (rd o (w64 ((o.length : Int) - (1 : Int)))).bind fun alU =>
       if (alU.Kind == ([108, 105, 115, 116] : Str)) = true then
        (jg alU).bind fun aac =>
        if (decide (aac < (30 : Int))) = true then
         (app 104 [xL] [alU]).bind fun avV =>
         (sl o (0 : Int) (w64 ((o.length : Int) - (1 : Int)))).bind fun avx =>
         (app 104 ([] : List za) avx).bind fun avy =>
         (app 104 avy [({ Kind := ([108, 105, 115, 116] : Str), Text := ([] : Str), Marks := [], zh := [], Kids := [({ Kind := ([105, 116, 101, 109] : Str), Text := ([] : Str), Marks := [], zh := [], Kids := avV } : za)] } : za)]).bind fun avn =>
         zF suf ((i : Int) + 1) ([] : List za) avn
        else
         (app 104 o [({ Kind := ([108, 105, 115, 116] : Str), Text := ([] : Str), Marks := [], zh := [], Kids := [({ Kind := ([105, 116, 101, 109] : Str), Text := ([] : Str), Marks := [], zh := [], Kids := [xL] } : za)] } : za)]).bind fun avF =>
         zF suf ((i : Int) + 1) ([] : List za) avF
       else
        (app 104 o [({ Kind := ([108, 105, 115, 116] : Str), Text := ([] : Str), Marks := [], zh := [], Kids := [({ Kind := ([105, 116, 101, 109] : Str), Text := ([] : Str), Marks := [], zh := [], Kids := [xL] } : za)] } : za)]).bind fun avO =>
        zF suf ((i : Int) + 1) ([] : List za) avO
      else
       (app 104 o [({ Kind := ([108, 105, 115, 116] : Str), Text := ([] : Str), Marks := [], zh := [], Kids := [({ Kind := ([105, 116, 101, 109] : Str), Text := ([] : Str), Marks := [], zh := [], Kids := [xL] } : za)] } : za)]).bind fun avG =>
       zF suf ((i : Int) + 1) ([] : List za) avG) := fun suf => by
  rw [zF, if_pos hi', eT]
  simp only [Option.bind_some]
  rw [et]
  simp only [Option.bind_some]
  rw [em1]
  simp only [Option.bind_some]
  rw [em2]
  simp only [Option.bind_some]
  rw [← hn, w9 (by simp only [List.length_cons, List.length_nil]; omega)]
  simp only [Option.bind_some]
  rw [eI]
  rfl
 have htb : ∀ x ∈ ts ++ [n], BN x := fun x hx => by
  rcases List.mem_append.1 hx with hx | hx
  ·exact h.tb x hx
  ·simp at hx; rw [hx]; exact hnB
 have htt : ∀ x ∈ ts ++ [n], isT x = true := fun x hx => by
  rcases List.mem_append.1 hx with hx | hx
  ·exact h.tt x hx
  ·simp at hx; rw [hx]; exact hnT
 have hwn : zN (ts ++ [n]) = zN ts + nwt n := by simp [kT, zN]
 by_cases k0 : (pI : Int) = 0
 ·refine ⟨ts ++ [n], o, ⟨htb, htt, h.ob, h.ont, by omega, h.dep⟩, fun suf => ?_⟩
  rw [start, if_pos (by simp [k0])]
 ·obtain ⟨p, ep, hpB, hpT, hpW, hpD⟩ := @au0 y hy' (i + 1) (by omega) (ts ++ [n]) o ⟨htb, htt, h.ob, h.ont, by omega, h.dep⟩
  have nob : ∀ x ∈ ([] : List za), BN x := by simp
  have nott : ∀ x ∈ ([] : List za), isT x = true := by simp
  by_cases k3 : (pI : Int) < 3
  ·refine ⟨[], o ++ [p], h.put hpB hpT nob nott (fun x hx => hx) (by simp only [zN]; omega) (by omega), fun suf => ?_⟩
   rw [start, if_neg (by simp; omega), ep]
   simp only [Option.bind_some]
   rw [if_pos (by simp; omega), w9 (by simp only [List.length_cons, List.length_nil]; omega)]
   rfl
  ·obtain ⟨q1, q2, q3, q4⟩ := agT (k := af1) (ks := [p]) akz rfl (by simpa using hpB) (by simpa using hpT)
   obtain ⟨r1, r2, r3, r4⟩ := agT (k := akM) (ks := [⟨af1, [], [], [], [p]⟩]) ajN rfl (by simpa using q1) (by simpa using q2)
   simp only [zN, wK] at q3 q4 r3 r4
   have one : BkS (i + 1) [] (o ++ [⟨akM, [], [], [], [⟨af1, [], [], [], [p]⟩]⟩]) := h.put r1 r2 nob nott (fun x hx => hx) (by simp only [zN]; omega) (by omega)
   have happ : ∀ z : za, app 104 o [z] = some (o ++ [z]) := fun z => w9 (by simp only [List.length_cons, List.length_nil]; omega)
   rcases kK o with rfl | ⟨o, x, rfl⟩
   ·refine ⟨[], _, one, fun suf => ?_⟩
    have hl : decide (w64 ((([] : List za).length : Int) - 1) ≥ 0) = false := by rw [zV (by simp)]; simp
    rw [start, if_neg (by simp; omega), ep]
    simp only [Option.bind_some]
    rw [if_neg (by simp; omega), hl]
    simp only [Bool.false_eq_true, if_false, Option.bind_some]
    rw [happ]
    rfl
   ·have hlen : ((o ++ [x]).length : Int) - 1 = (o.length : Int) := by simp
    have hlw : w64 (((o ++ [x]).length : Int) - 1) = (o.length : Int) := by
     rw [hlen]
     simp only [List.length_append, List.length_cons, List.length_nil] at hlo
     exact zV (by omega)
    have hl : decide ((o.length : Int) ≥ 0) = true := by simp
    have hrd : rd (o ++ [x]) (o.length : Int) = some x := Qd o [] x
    have hsl : sl (o ++ [x]) 0 (o.length : Int) = some o := atJ o [x]
    have hxB := h.ob x (by simp)
    have hxT := h.ont x (by simp)
    have hd := h.dep
    simp only [kT, zN, Xc, wK] at hwt hd
    have hwo : 2 * o.length ≤ zN o := qx o
    by_cases kl : x.Kind = akM
    ·by_cases kk : (pI : Int) = 3
     ·obtain ⟨kB, kJ⟩ := apV hxB
      have hlk := qx x.Kids
      have hxw := qi x
      obtain ⟨z, hz⟩ : ∃ z : za, z = { x with Kids := x.Kids ++ [⟨af1, [], [], [], [p]⟩] } := ⟨_, rfl⟩
      have zw := qi z
      have zT : isT z = false := by rw [hz]; exact hxT
      have zd := aaU zT
      have xd := aaU hxT
      have zB : BN z := by
       rw [hz]
       cases hxB with
       | text t m h1 h2 hm => cases kl
       | node k a ks hk ha hb hs hj =>
        simp only at kl
        subst kl
        refine .node _ _ _ hk ha hb (fun y hy => ?_) ?_
        ·rcases List.mem_append.1 hy with hy | hy
         ·exact hs y hy
         ·simp at hy; rw [hy]; exact q1
        ·rcases kK ks with rfl | ⟨ks, u, rfl⟩
         ·trivial
         ·rw [List.append_assoc]
          exact ahK ks u _ hj (by unfold wL; rw [q2]; simp)
      rw [hz] at zw zd
      simp only [kT, zN, Xc, wK] at zw zd
      refine ⟨[], o ++ [z], h.put zB zT nob nott (fun y hy => by simp [hy]) (by simp only [zN]; rw [hz, qi]; simp only [kT, zN]; omega) (by rw [hz, zd]; omega), fun suf => ?_⟩
      rw [start, if_neg (by simp; omega), ep]
      simp only [Option.bind_some]
      rw [if_neg (by simp; omega), hlw, hl]
      simp only [if_true]
      rw [hrd]
      simp only [Option.bind_some]
      rw [if_pos (by rw [kl]; rfl), if_pos (by simp [kk]), w9 (by simp only [List.length_nil]; omega)]
      simp only [Option.bind_some, List.nil_append]
      rw [w9 (by simp only [List.length_cons, List.length_nil]; omega)]
      simp only [Option.bind_some]
      rw [hsl]
      simp only [Option.bind_some]
      rw [w9 (by simp only [List.length_nil]; omega)]
      simp only [Option.bind_some, List.nil_append]
      rw [w9 (by simp only [List.length_cons, List.length_nil]; omega)]
      simp only [Option.bind_some]
      rw [hz]
     ·by_cases kd : yR x < 30
      ·obtain ⟨u1, u2, u3, u4⟩ := agT (k := af1) (ks := [p, x]) akz rfl (by simpa using ⟨hpB, hxB⟩) (by simpa using ⟨hpT, hxT⟩)
       obtain ⟨v1, v2, v3, v4⟩ := agT (k := akM) (ks := [⟨af1, [], [], [], [p, x]⟩]) ajN rfl (by simpa using u1) (by simpa using u2)
       simp only [zN, wK] at u3 u4 v3 v4
       refine ⟨[], o ++ [⟨akM, [], [], [], [⟨af1, [], [], [], [p, x]⟩]⟩], h.put v1 v2 nob nott (fun y hy => by simp [hy]) (by simp only [zN]; omega) (by omega), fun suf => ?_⟩
       rw [start, if_neg (by simp; omega), ep]
       simp only [Option.bind_some]
       rw [if_neg (by simp; omega), hlw, hl]
       simp only [if_true]
       rw [hrd]
       simp only [Option.bind_some]
       rw [if_pos (by rw [kl]; rfl), if_neg (by simp [kk])]
       simp only [Option.bind_some]
       rw [if_pos (by rw [kl]; rfl), aju x (by omega)]
       simp only [Option.bind_some]
       rw [if_pos (by simp; omega), w9 (by simp)]
       simp only [Option.bind_some]
       rw [hsl]
       simp only [Option.bind_some]
       rw [w9 (by simp only [List.length_nil]; omega)]
       simp only [Option.bind_some, List.nil_append]
       rw [w9 (by simp only [List.length_cons, List.length_nil]; omega)]
       rfl
      ·refine ⟨[], _, one, fun suf => ?_⟩
       rw [start, if_neg (by simp; omega), ep]
       simp only [Option.bind_some]
       rw [if_neg (by simp; omega), hlw, hl]
       simp only [if_true]
       rw [hrd]
       simp only [Option.bind_some]
       rw [if_pos (by rw [kl]; rfl), if_neg (by simp [kk])]
       simp only [Option.bind_some]
       rw [if_pos (by rw [kl]; rfl), aju x (by omega)]
       simp only [Option.bind_some]
       rw [if_neg (by simp; omega), happ]
       rfl
    ·refine ⟨[], _, one, fun suf => ?_⟩
     rw [start, if_neg (by simp; omega), ep]
     simp only [Option.bind_some]
     rw [if_neg (by simp; omega), hlw, hl]
     simp only [if_true]
     rw [hrd]
     simp only [Option.bind_some]
     rw [if_neg (by simpa using kl)]
     simp only [Option.bind_some]
     rw [if_neg (by simpa using kl), happ]
     rfl
theorem auc : ∀ (l : List zu) (i : Nat) (ts o : List za), (∀ y ∈ l, aaV y) → i ≤ 40 → BkS i ts o → ∃ ts' o', zF l (i : Int) ts o = some o' ∧ BkS 40 ts' o'
 | [], i, ts, o, _, hi, h => ⟨ts, o, by simp [zF], h.tb, h.tt, h.ob, h.ont, by have := h.wt; omega, h.dep⟩
 | y :: l, i, ts, o, hy, hi, h => by
  by_cases hlt : i < 40
  ·obtain ⟨t1, o1, h1, h2⟩ := auG y (hy y (by simp)) i hlt ts o h
   obtain ⟨ts', o', h3, h4⟩ := auc l (i + 1) t1 o1 (fun x hx => hy x (by simp [hx])) (by omega) h1
   refine ⟨ts', o', ?_, h4⟩
   rw [h2, ← h3]
   rfl
  ·have : decide ((i : Int) < 40) = false := by simp; omega
   exact ⟨ts, o, by rw [zF]; simp [this], h.tb, h.tt, h.ob, h.ont, by have := h.wt; omega, h.dep⟩
theorem akZ (l : List zu) (hl : l.length ≤ 9223372036854775807) (h : ∀ y ∈ l, aaV y) : ∃ ks, vL l = some ⟨aoG, [], [], [], ks⟩ ∧ Book ks := by
 obtain ⟨ts, o, h1, h2⟩ := auc l 0 [] [] h (by omega) ⟨by simp, by simp, by simp, by simp, by simp [zN], by simp [wK]⟩
 have hw := h2.wt
 refine ⟨o, ?_, h2.ob, h2.ont, by omega, h2.dep⟩
 unfold vL
 rw [qJ hl]
 have : zF l 0 [] [] = some o := h1
 rw [this]
 rfl
end Go.Proofs.YtclohbgnaopjfaaDoor
namespace Go.Proofs.YtclohbgnaopjfaaDoor
set_option linter.unusedSimpArgs false
set_option linter.unusedVariables false
open Go Classical
theorem aqU {ks : List za} (h : Book ks) : vE ks ∧ tw (tkL ks) ≤ 40000 := by
 refine ⟨⟨fun x hx => apY (h.bn x hx), alr ks h.nt⟩, ?_⟩
 have := (alG h).2
 unfold wD at this
 omega
end Go.Proofs.YtclohbgnaopjfaaDoor
namespace Go.Proofs.YtclohbgnaopjfaaDoor
set_option linter.unusedSimpArgs false
set_option linter.unusedVariables false
open Go Classical
set_option maxRecDepth 100000
structure auv (n : za) (T : List Tk) (w : Nat) : Prop where
 td : TD n T
 k : n.Kind = aoG
 a : n.zh = []
 w : wD n T ≤ w
theorem auW {n : za} {T : List Tk} {w : Nat} (h : auv n T w) (hw : w ≤ 300000) {s : zt} (hs : agb T s) (hsn : tw (tkL s.wO) ≤ 40000) : ∃ N e, wZ n s = some (N, e) ∧ (e = 0 → ∃ T', auv N T' (w + 130000)) := by
 rcases atX h.td (by have := h.w; omega) h.a hs with ⟨e, he, h1⟩ | ⟨N, T', g1, g5, g6, g7, g8⟩
 ·exact ⟨_, e, h1, fun h => absurd h he⟩
 ·exact ⟨N, 0, g1, fun _ => ⟨T', g5, by rw [g6, h.k], by rw [g7, h.a], by have := h.w; omega⟩⟩
theorem avI (a b : Int) (h : 0 ≤ a) (h2 : 0 ≤ b) : ∃ m : Nat, (if a < b then a else b) = (m : Int) ∧ (m : Int) = min a b := by
 refine ⟨(min a b).toNat, ?_, by omega⟩
 split <;> omega
theorem aci (ks : List Int) (hk : ks.length ≤ 9223372036854775807) (hr : ∀ y ∈ ks, -9223372036854775808 ≤ y ∧ y ≤ 9223372036854775807) : ∀ (d : Nat) (i w : Nat) (n : za) (T : List Tk), d ≤ 3 → i + 3 * d = 9 → auv n T w → w + d * 130000 ≤ 430000 → ∃ c C, (∀ f, d < f → zR ks f (i : Int) n = some c) ∧ auv c C (w + d * 130000)
 | 0, i, w, n, T, _, hi, h, _ => by
  refine ⟨n, T, fun f hf => ?_, by simpa using h⟩
  obtain ⟨f, rfl⟩ : ∃ j, f = j + 1 := ⟨f - 1, by omega⟩
  obtain rfl : i = 9 := by omega
  rw [zR]
  split
  ·rfl
  ·rfl
 | d + 1, i, w, n, T, hd, hi, h, hw => by
  have hdd : (d + 1) * 130000 = d * 130000 + 130000 := Nat.succ_mul _ _
  rw [hdd] at hw ⊢
  have e2 : w64 ((i : Int) + 2) = ((i + 2 : Nat) : Int) := by rw [zV (by omega)]; omega
  have e1 : w64 ((i : Int) + 1) = ((i + 1 : Nat) : Int) := by rw [zV (by omega)]; omega
  have e3 : w64 ((i : Int) + 3) = ((i + 3 : Nat) : Int) := by rw [zV (by omega)]; omega
  by_cases hlt : i + 2 < ks.length
  ·have hsm := h.td.small
   have hlen := h.td.len
   have hwt := h.td.wt
   have hww := h.w
   have hnk := wV n
   have get : ∀ j : Nat, j < ks.length → ∃ x, rd ks (j : Int) = some x ∧ -9223372036854775808 ≤ x ∧ x ≤ 9223372036854775807 := fun j hj => ⟨ks[j], xe (List.getElem?_eq_getElem hj), hr _ (List.getElem_mem hj)⟩
   obtain ⟨x0, r0, b0⟩ := get i (by omega)
   obtain ⟨x1, r1, b1⟩ := get (i + 1) (by omega)
   obtain ⟨x2, r2, b2⟩ := get (i + 2) hlt
   have et : w64 ((zA n.Kids : Int) + 1) = (zA n.Kids : Int) + 1 := zV (by omega)
   obtain ⟨p, p1, p2⟩ := KL x0 ((zA n.Kids : Int) + 1) b0 (by omega)
   obtain ⟨q, q1, q2⟩ := KL x1 4 b1 (by decide)
   obtain ⟨z, z1, z2⟩ := KL x2 4 b2 (by decide)
   obtain ⟨kk, k1, k2⟩ := akZ [(⟨0, 0, x2, 1⟩ : zu)] (by simp) (fun y hy => by
    rw [List.mem_singleton] at hy
    subst hy
    exact ⟨by simp, by simp, b2, by simp⟩)
   obtain ⟨rr1, rr2⟩ := aqU k2
   have epq : w64 ((p : Int) + (q : Int)) = (p : Int) + (q : Int) := zV (by omega)
   obtain ⟨m, m1, m2⟩ := avI ((p : Int) + (q : Int)) (zA n.Kids : Int) (by omega) (by omega)
   have key : ∀ s, agb T s → tw (tkL s.wO) ≤ 40000 → ∃ c C, (∀ f, d < f → ((wZ n s).bind fun (aoR, asy) => if (asy == (0 : Int)) = true then zR ks f ((i + 3 : Nat) : Int) aoR else zR ks f ((i + 3 : Nat) : Int) n) = some c) ∧ auv c C (w + (d * 130000 + 130000)) := by
    intro s hs hsn
    obtain ⟨N, e, a1, a2⟩ := auW h (by omega) hs hsn
    by_cases he : e = 0
    ·obtain ⟨T', hN⟩ := a2 he
     obtain ⟨c, C, c1, c2⟩ := aci ks hk hr d (i + 3) (w + 130000) N T' (by omega) (by omega) hN (by omega)
     refine ⟨c, C, fun f hf => ?_, ⟨c2.td, c2.k, c2.a, by have := c2.w; omega⟩⟩
     rw [a1]
     simp only [Option.bind_some]
     rw [if_pos (by simp [he]), c1 f hf]
    ·obtain ⟨c, C, c1, c2⟩ := aci ks hk hr d (i + 3) w n T (by omega) (by omega) h (Nat.le_trans (Nat.add_le_add_left (Nat.le_add_right _ _) _) hw)
     refine ⟨c, C, fun f hf => ?_, ⟨c2.td, c2.k, c2.a, Nat.le_trans c2.w (Nat.add_le_add_left (Nat.le_add_right _ _) _)⟩⟩
     rw [a1]
     simp only [Option.bind_some]
     rw [if_neg (by simpa using he), c1 f hf]
   have n1 : isName [98] = true := by decide +kernel
   have n2 : isName [97, 108, 105, 103, 110] = true := by decide +kernel
   have v2 : isValue [114, 105, 103, 104, 116] = true := by decide +kernel
   have t0 : tw (tkL ([] : List za)) ≤ 40000 := by simp [tkL, tw]
   have fnew : qh (⟨vI, [110, 101, 119], [], [], []⟩ : za) = true := by decide +kernel
   have frnew : vE [(⟨vI, [110, 101, 119], [], [], []⟩ : za)] := ⟨fun x hx => by rw [List.mem_singleton] at hx; subst hx; exact fnew, trivial⟩
   have wnew : zN [(⟨vI, [110, 101, 119], [], [], []⟩ : za)] ≤ 100 := by decide +kernel
   have tnew : tw (tkL [(⟨[116, 101, 120, 116], [110, 101, 119], [], [], []⟩ : za)]) ≤ 11000 := asg wnew
   obtain ⟨s, hs1, hs2, hs3⟩ : ∃ s, (((zX x2 (4 : Int)).bind fun QY =>
      if (QY == (0 : Int)) = true then
       some ({ Kind := (97 : Int), From := (p : Int), To := (0 : Int), wO := [], Name := ([97, 108, 105, 103, 110] : Str), Value := ([114, 105, 103, 104, 116] : Str) } : zt)
      else
       if (QY == (1 : Int)) = true then
        some ({ Kind := (109 : Int), From := (p : Int), To := (m : Int), wO := [], Name := ([98] : Str), Value := ([] : Str) } : zt)
       else
        if (QY == (2 : Int)) = true then
         some ({ Kind := (114 : Int), From := (p : Int), To := (m : Int), wO := [({ Kind := ([116, 101, 120, 116] : Str), Text := ([110, 101, 119] : Str), Marks := [], zh := [], Kids := [] } : za)], Name := ([] : Str), Value := ([] : Str) } : zt)
        else
         some ({ Kind := (114 : Int), From := (p : Int), To := (m : Int), wO := kk, Name := ([] : Str), Value := ([] : Str) } : zt)) : Option zt) = some s ∧ agb T s ∧ tw (tkL s.wO) ≤ 40000 := by
    rw [z1]
    simp only [Option.bind_some]
    by_cases g0 : (z : Int) = 0
    ·rw [if_pos (by simpa using g0)]
     exact ⟨_, rfl, .attr _ _ _ (by omega) (by omega) n2 v2, t0⟩
    rw [if_neg (by simpa using g0)]
    by_cases g1 : (z : Int) = 1
    ·rw [if_pos (by simpa using g1)]
     exact ⟨_, rfl, .mark _ _ _ _ (.inl rfl) n1 (by omega) (by omega), t0⟩
    rw [if_neg (by simpa using g1)]
    by_cases g2 : (z : Int) = 2
    ·rw [if_pos (by simpa using g2)]
     exact ⟨_, rfl, .rep _ _ _ (by omega) (by omega) frnew (by omega), by simp only; omega⟩
    rw [if_neg (by simpa using g2)]
    exact ⟨_, rfl, .rep _ _ _ (by omega) (by omega) rr1 (by omega), rr2⟩
   obtain ⟨c, C, c1, c2⟩ := key s hs2 hs3
   refine ⟨c, C, fun f hf => ?_, c2⟩
   obtain ⟨f, rfl⟩ : ∃ j, f = j + 1 := ⟨f - 1, by omega⟩
   rw [zR, e2, if_pos (by simp; omega), if_pos (by simp; omega), QP n.Kids (by omega)]
   simp only [Option.bind_some]
   rw [r0]
   simp only [Option.bind_some]
   rw [et, p1]
   simp only [Option.bind_some]
   rw [e1, r1]
   simp only [Option.bind_some]
   rw [q1]
   simp only [Option.bind_some]
   rw [r2]
   simp only [Option.bind_some]
   rw [k1]
   simp only [Option.bind_some]
   rw [epq, m1, hs1, e3]
   simp only [Option.bind_some]
   exact c1 f (by omega)
  ·refine ⟨n, T, fun f hf => ?_, ⟨h.td, h.k, h.a, by have := h.w; omega⟩⟩
   obtain ⟨f, rfl⟩ : ∃ j, f = j + 1 := ⟨f - 1, by omega⟩
   rw [zR, e2, if_neg (by simp; omega)]
theorem aev {a b : za} {A B : List Tk} (ha : TD a A) (hb : TD b B) (hk : a.Kind = b.Kind) (aa : a.zh = []) (ab : b.zh = []) (hwa : wD a A + 40 * zN a.Kids ≤ 400000) (hwb : wD b B ≤ 1000000) :
  ∃ l, xI a b = some (l, 0) ∧ VY a l = some (b, 0) ∧ kZ b b = some true ∧ kZ a b = some ((l.length : Int) == 0) ∧ (a = b → l = []) := by
 obtain ⟨l, h1, h2, h3, h4⟩ := ar0 ha hb hk aa ab hwa hwb
 have wa := ha.wt
 have wb := hb.wt
 refine ⟨l, h1, auB h2.does (by omega), amR b (by omega), ?_, h4⟩
 rw [aif a b (by omega), Option.some.injEq]
 by_cases e : a = b
 ·rw [h4 e]
  simp [e]
 ·rw [decide_eq_false e]
  cases l with
  | nil => cases h2; exact absurd rfl e
  | cons s l =>
   symm
   rw [beq_eq_false_iff_ne]
   simp only [List.length_cons]
   omega
theorem ahS (l m : List zu) (k : List Int) (hl : l.length ≤ 9223372036854775807) (hlc : ∀ y ∈ l, aaV y) (hm : m.length ≤ 9223372036854775807) (hmc : ∀ y ∈ m, aaV y) (hk : k.length ≤ 9223372036854775807) (hkc : ∀ y ∈ k, -9223372036854775808 ≤ y ∧ y ≤ 9223372036854775807) : jE l m k = some true := by
 obtain ⟨ka, ea, ba⟩ := akZ l hl hlc
 obtain ⟨kb, eb, bb⟩ := akZ m hm hmc
 obtain ⟨ha, wa⟩ := alG ba
 obtain ⟨hb, wb⟩ := alG bb
 obtain ⟨c, C, c1, c2⟩ := aci k hk hkc 3 0 40000 (akh ka) _ (by omega) (by omega) ⟨ha, rfl, rfl, wa⟩ (by omega)
 have ec : vT (akh ka) k = some c := by
  unfold vT
  have c1' : ∀ f, 3 < f → zR k f 0 (akh ka) = some c := c1
  rw [yK 4 fun f hf => c1' f (by omega)]
  rfl
 have hkw := ba.wt
 have hka : zN (akh ka).Kids ≤ 2400 := hkw
 have hcw := c2.w
 obtain ⟨x, x1, x2, x3, x4, _⟩ := aev ha hb rfl rfl rfl (by omega) (by omega)
 obtain ⟨y, y1, y2, y3, y4, _⟩ := aev ha c2.td (by rw [c2.k]) rfl c2.a (by omega) (by omega)
 obtain ⟨z, z1, z2, z3, z4, z5⟩ := aev ha ha rfl rfl rfl (by omega) (by omega)
 have ez := z5 rfl
 subst ez
 unfold jE
 rw [ao8]
 simp only [Option.bind_some, Bool.not_true, Bool.false_eq_true, if_false]
 rw [ea]
 simp only [Option.bind_some]
 rw [eb]
 simp only [Option.bind_some]
 rw [ec]
 simp only [Option.bind_some]
 rw [x1]
 simp only [Option.bind_some]
 rw [y1]
 simp only [Option.bind_some]
 rw [z1]
 simp only [Option.bind_some, bne_self_eq_false, Bool.false_eq_true, if_false, List.length_nil, Int.ofNat_zero]
 rw [x2]
 simp only [Option.bind_some]
 rw [y2]
 simp only [Option.bind_some, beq_self_eq_true, if_true]
 rw [x3]
 simp only [Option.bind_some, if_true]
 rw [y3]
 simp only [Option.bind_some, if_true]
 rw [x4]
 simp only [Option.bind_some]
 rw [if_pos (by simp), y4]
 simp
end Go.Proofs.YtclohbgnaopjfaaDoor
