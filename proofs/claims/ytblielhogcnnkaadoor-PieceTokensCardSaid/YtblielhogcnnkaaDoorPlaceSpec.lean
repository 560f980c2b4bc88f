/- Places, plainly: what a path leads to, where it starts, which spot a position has. -/
import Derived.Test.YtblielhogcnnkaaDoorPlaceAt
namespace Go.Proofs.YtblielhogcnnkaaDoor
set_option linter.unusedSimpArgs false
set_option linter.unusedVariables false
open Go

/-! ### Inner, Start -/
theorem inner_l0 {n : api_Node} {q m a} (h : At n q m a) : ∀ v, place_Inner_l0 (up q) v n = some (.inr m) := by
  induction h with
  | nil n => intro v; rfl
  | cons n i k q m a hi hn hk h ih =>
    intro v
    have hl := (List.getElem?_eq_some_iff.1 hi).1
    have h1 : decide ((i : Int) < 0) = false := by simp
    have h2 : decide ((i : Int) ≥ (n.Kids.length : Int)) = false := by simp; omega
    rw [up_cons, place_Inner_l0]
    simp only [isT_def, h1, h2, hn, Bool.false_eq_true, if_false, rd_nat hi, Option.bind_some, ih]
theorem inner_eq {n : api_Node} {q m a} (h : At n q m a) (hm : isT m = false) (hq : q.length ≤ 9223372036854775807) : place_Inner n (up q) = some (m, 0) := by
  unfold place_Inner
  rw [up_len, chk_eq hq, inner_l0 h]
  simp only [Option.bind_some, isT_def, hm, Bool.false_eq_true, if_false]

theorem start_l0 {n : api_Node} {q m a} (h : At n q m a) : ∀ v (t : Nat), nwt n ≤ 1099511627776 → t + a ≤ 4611686018427387904 → place_Start_l0 (up q) v (t : Int) n = some ((t + a : Nat) : Int) := by
  induction h with
  | nil n => intro v t _ _; rfl
  | cons n i k q m a hi hn hk h ih =>
    intro v t hw ht
    have hl := (List.getElem?_eq_some_iff.1 hi).1
    have h1 := kid_wts hi
    have h2 := nwts_kids n
    have h3 := nsizes_le' (n.Kids.take i)
    rw [up_cons, place_Start_l0, sl_take (by omega)]
    simp only [Option.bind_some]
    rw [total_eq _ (by omega), rd_nat hi]
    simp only [Option.bind_some]
    have e : w64 ((t : Int) + w64 ((nsizes (n.Kids.take i) : Int) + 1)) = ((t + (nsizes (n.Kids.take i) + 1) : Nat) : Int) := by
      rw [w64_eq (x := (nsizes (n.Kids.take i) : Int) + 1) (by omega), w64_eq (by omega)]
      omega
    rw [e, ih _ _ (by omega) (by omega)]
    simp only [Option.some.injEq]
    omega
theorem start_eq {n : api_Node} {q m a} (h : At n q m a) (hm : isT m = false) (hw : nwt n ≤ 1099511627776) : place_Start n (up q) = some ((a : Int), 0) := by
  have h1 := h.len
  have h2 := h.sizes
  have h3 := nsizes_le' n.Kids
  have h4 := nwts_kids n
  unfold place_Start
  rw [inner_eq h hm (by omega)]
  have := start_l0 h 0 0 hw (by omega)
  simp only [Option.bind_some, bne_self_eq_false, Bool.false_eq_true, if_false]
  rw [up_len, chk_eq (by omega)]
  have e : ((0 : Nat) : Int) = 0 := rfl
  rw [e] at this
  rw [this]
  simp

/-! ### The spot of a position -/
def SpotOk (n : api_Node) (s : place_Spot) (pos : Nat) : Prop :=
  ∃ q m a idx off, s = ⟨up q, ((idx : Nat) : Int), ((off : Nat) : Int)⟩ ∧ At n q m a ∧ isT m = false ∧ idx ≤ m.Kids.length ∧ a + nsizes (m.Kids.take idx) + off = pos ∧ (∀ k, m.Kids[idx]? = some k → off < nsize k ∧ (0 < off → isT k = true)) ∧ (idx = m.Kids.length → off = 0)

theorem resolve_l2 (path : List Int) (hp : path.length ≤ 1099511627776) : ∀ (suf : List api_Node) (i pos : Nat), nwts suf ≤ 1099511627776 → pos ≤ 1099511627776 → i + suf.length ≤ 9223372036854775807 →
    (nsizes suf ≤ pos ∧ place_Resolve_l2 path suf (i : Int) (pos : Int) = some (.inr (.inr ()))) ∨
    ∃ a k b r, suf = a ++ k :: b ∧ pos = nsizes a + r ∧ r < nsize k ∧
      (((isT k = true ∨ r = 0) ∧ place_Resolve_l2 path suf (i : Int) (pos : Int) = some (.inl (⟨path, ((i + a.length : Nat) : Int), ((r : Nat) : Int)⟩, 0))) ∨
       (isT k = false ∧ 0 < r ∧ place_Resolve_l2 path suf (i : Int) (pos : Int) = some (.inr (.inl (((r - 1 : Nat) : Int), k, path ++ [((i + a.length : Nat) : Int)])))))
  | [], i, pos, _, _, _ => .inl ⟨by simp [nsizes], rfl⟩
  | y :: suf, i, pos, hw, hpos, hi => by
    simp only [nwts] at hw
    have hy := nsize_le y
    by_cases h : nsize y ≤ pos
    · have step : place_Resolve_l2 path (y :: suf) (i : Int) (pos : Int) = place_Resolve_l2 path suf ((i + 1 : Nat) : Int) ((pos - nsize y : Nat) : Int) := by
        rw [place_Resolve_l2, size_eq y (by omega)]
        have : decide ((pos : Int) ≥ (nsize y : Int)) = true := by simp; omega
        simp only [Option.bind_some, this, if_true]
        rw [w64_eq (by omega)]
        congr 1
        omega
      simp only [List.length_cons] at hi
      rcases resolve_l2 path hp suf (i + 1) (pos - nsize y) (by omega) (by omega) (by omega) with ⟨h1, h2⟩ | ⟨a, k, b, r, h1, h2, h3, h4⟩
      · left
        exact ⟨by simp only [nsizes]; omega, by rw [step, h2]⟩
      · right
        have e : i + 1 + a.length = i + (y :: a).length := by simp; omega
        rw [e] at h4
        exact ⟨y :: a, k, b, r, by rw [h1]; rfl, by simp only [nsizes]; omega, h3, by rw [step]; exact h4⟩
    · right
      have hd : decide ((pos : Int) ≥ (nsize y : Int)) = false := by simp; omega
      refine ⟨[], y, suf, pos, rfl, by simp [nsizes], by omega, ?_⟩
      rw [place_Resolve_l2, size_eq y (by omega)]
      simp only [Option.bind_some, hd, Bool.false_eq_true, if_false, List.length_nil, Nat.add_zero]
      by_cases ht : isT y = true
      · left
        exact ⟨.inl ht, by simp only [isT_def, ht, if_true]⟩
      · have ht' : isT y = false := by simpa using ht
        simp only [isT_def, ht', Bool.false_eq_true, if_false]
        by_cases h0 : pos = 0
        · left
          subst h0
          exact ⟨.inr rfl, by simp⟩
        · right
          have : ((pos : Int) == 0) = false := by simp; omega
          refine ⟨trivial, by omega, ?_⟩
          simp only [this, Bool.false_eq_true, if_false]
          rw [app_eq (by simp; omega), w64_eq (by omega)]
          simp only [Option.bind_some, Option.some.injEq, Sum.inr.injEq, Sum.inl.injEq, Prod.mk.injEq, and_true]
          omega

theorem resolve_l0 (n0 : api_Node) (hw0 : nwt n0 ≤ 1099511627776) : ∀ (d : Nat) (n : api_Node) (q : List Nat) (a pos : Nat), ndep n ≤ d → At n0 q n a → isT n = false → pos ≤ nsizes n.Kids → ∃ s, SpotOk n0 s (a + pos) ∧ ∀ k, d ≤ k → place_Resolve_l0 k (pos : Int) n (up q) = some (s, 0)
  | 0, n, q, a, pos, hd, _, _, _ => by have := ndep_eq n; omega
  | d + 1, n, q, a, pos, hd, hat, hn, hpos => by
    have h1 := hat.len
    have h2 := hat.sizes
    have h3 := nsizes_le' n0.Kids
    have h4 := nwts_kids n0
    have h5 := hat.wt
    have h6 := nwts_kids n
    have h7 := nwts_len n.Kids
    have h8 := nsizes_le' n.Kids
    rcases resolve_l2 (up q) (by rw [up_len]; omega) n.Kids 0 pos (by omega) (by omega) (by omega) with ⟨e1, e2⟩ | ⟨x, k, y, r, e1, e2, e3, e4⟩
    · refine ⟨⟨up q, (n.Kids.length : Int), 0⟩, ⟨q, n, a, n.Kids.length, 0, rfl, hat, hn, by omega, by simp; omega, fun k hk => by simp at hk, fun _ => rfl⟩, fun k hk => ?_⟩
      obtain ⟨k, rfl⟩ : ∃ j, k = j + 1 := ⟨k - 1, by omega⟩
      rw [place_Resolve_l0, chk_eq (by omega)]
      have e2' : place_Resolve_l2 (up q) n.Kids 0 (pos : Int) = _ := e2
      rw [e2']
      rfl
    · have hx : n.Kids[x.length]? = some k := by rw [e1]; simp
      have htk : n.Kids.take x.length = x := by rw [e1]; simp
      have hle : x.length < n.Kids.length := by rw [e1]; simp
      rw [Nat.zero_add] at e4
      rcases e4 with ⟨e4, e5⟩ | ⟨e4, e5, e6⟩
      · refine ⟨⟨up q, (x.length : Int), (r : Int)⟩, ⟨q, n, a, x.length, r, rfl, hat, hn, by omega, by rw [htk]; omega, fun k' hk' => ?_, fun h => by omega⟩, fun k' hk => ?_⟩
        · rw [hx] at hk'
          cases hk'
          exact ⟨e3, fun h => e4.resolve_right (by omega)⟩
        · obtain ⟨k', rfl⟩ : ∃ j, k' = j + 1 := ⟨k' - 1, by omega⟩
          rw [place_Resolve_l0, chk_eq (by omega)]
          have e2' : place_Resolve_l2 (up q) n.Kids 0 (pos : Int) = _ := e5
          rw [e2']
          rfl
      · have hs := size_node e4
        have hdk := ndep_mem (List.mem_of_getElem? hx)
        have hdn := ndep_eq n
        obtain ⟨s, s1, s2⟩ := resolve_l0 n0 hw0 d k (q ++ [x.length]) _ (r - 1) (by omega) (hat.snoc hx hn e4) e4 (by omega)
        refine ⟨s, ?_, fun k' hk => ?_⟩
        · rw [htk] at s1
          have e : a + nsizes x + 1 + (r - 1) = a + pos := by omega
          rw [e] at s1
          exact s1
        · obtain ⟨k', rfl⟩ : ∃ j, k' = j + 1 := ⟨k' - 1, by omega⟩
          rw [place_Resolve_l0, chk_eq (by omega)]
          have e2' : place_Resolve_l2 (up q) n.Kids 0 (pos : Int) = _ := e6
          rw [e2']
          simp only [Option.bind_some]
          have := s2 k' (by omega)
          rw [up_app] at this
          exact this

theorem resolve_eq {n : api_Node} (hn : isT n = false) (hw : nwt n ≤ 1099511627776) (pos : Nat) (hp : pos ≤ nsizes n.Kids) : ∃ s, place_Resolve n (pos : Int) = some (s, 0) ∧ SpotOk n s pos := by
  have h4 := nwts_kids n
  obtain ⟨s, h1, h2⟩ := resolve_l0 n hw (ndep n) n [] 0 pos (Nat.le_refl _) (.nil n) hn hp
  refine ⟨s, ?_, by simpa using h1⟩
  have hneg : decide ((pos : Int) < 0) = false := by simp
  have hgt : decide ((pos : Int) > (nsizes n.Kids : Int)) = false := by simp; omega
  unfold place_Resolve
  simp only [isT_def, hn, Bool.false_eq_true, if_false, hneg]
  rw [total_eq _ (by omega)]
  simp only [Option.bind_some, hgt, Bool.false_eq_true, if_false]
  rw [up_nil] at h2
  rw [lim_of (ndep n) h2]
  rfl
theorem resolve_out {n : api_Node} (hn : isT n = false) (hw : nwt n ≤ 1099511627776) (pos : Int) (hp : pos < 0 ∨ nsizes n.Kids < pos) : place_Resolve n pos = some (⟨[], 0, 0⟩, 3) := by
  have h4 := nwts_kids n
  unfold place_Resolve
  simp only [isT_def, hn, Bool.false_eq_true, if_false]
  by_cases h : pos < 0
  · simp [h]
  · have hgt : decide (pos > (nsizes n.Kids : Int)) = true := by simp; omega
    have hneg : decide (pos < 0) = false := by simpa using h
    simp only [hneg, Bool.false_eq_true, if_false]
    rw [total_eq _ (by omega)]
    simp only [Option.bind_some, hgt, if_true]

theorem SpotOk.le {n : api_Node} {s pos} (h : SpotOk n s pos) : pos ≤ nsizes n.Kids := by
  obtain ⟨q, m, a, idx, off, _, h1, _, h2, h3, h4, h5⟩ := h
  have hs := h1.sizes
  rcases Nat.lt_or_ge idx m.Kids.length with hl | hl
  · obtain ⟨k, hk⟩ : ∃ k, m.Kids[idx]? = some k := ⟨_, List.getElem?_eq_getElem hl⟩
    have := kid_sizes hk
    have := (h4 k hk).1
    omega
  · have := h5 (by omega)
    have := take_sizes m.Kids idx
    omega

end Go.Proofs.YtblielhogcnnkaaDoor
