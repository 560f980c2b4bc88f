/- Every text is read to an end. -/
import Derived.Test.YtihndopckmdpbaaDoorRead4
namespace Go.Proofs.YtihndopckmdpbaaDoor
set_option linter.unusedSimpArgs false
set_option linter.unusedVariables false
open Go

theorem unq_len : ∀ (n : Nat) (s acc v t : Str), s.length ≤ n → unq acc s = some (v, t) → v.length + t.length + 1 ≤ acc.length + s.length
  | _, [], acc, v, t, _, h => by simp [unq] at h
  | 0, _ :: _, _, _, _, hl, _ => by simp at hl
  | n + 1, b :: s, acc, v, t, hl, h => by
    by_cases h34 : b = 34
    · subst h34
      simp only [unq, Option.some.injEq, Prod.mk.injEq] at h
      obtain ⟨rfl, rfl⟩ := h
      simp; omega
    · by_cases h92 : b = 92
      · subst h92
        cases s with
        | nil => simp [unq] at h
        | cons c s =>
          rw [unq_two] at h
          have := unq_len n s _ v t (by simp at hl; omega) h
          simp at this ⊢
          omega
      · rw [unq_other h34 h92] at h
        have := unq_len n s _ v t (by simp at hl; omega) h
        simp at this ⊢
        omega
theorem quotedR_len (s : Str) (bad : Bool) : (quotedR s bad).1.length + (quotedR s bad).2.left.length ≤ s.length ∧ (s.head? = some 34 → (quotedR s bad).1.length + (quotedR s bad).2.left.length + 1 ≤ s.length) ∧ (bad = true → (quotedR s bad).2.bad = true) ∧ ((quotedR s bad).2.bad = false → (quotedR s bad).1.length + (quotedR s bad).2.left.length + 2 ≤ s.length) := by
  unfold quotedR
  have ht : s.head? = some 34 → s.tail.length + 1 = s.length := by
    intro h
    cases s with
    | nil => cases h
    | cons b s => simp
  split
  · rename_i h
    have ht' := ht h.2
    split
    · rename_i v t hu
      have := unq_len _ _ _ _ _ (Nat.le_refl _) hu
      simp only [List.length_nil, Nat.zero_add] at this
      refine ⟨(by simp only; omega), fun _ => (by simp only; omega), fun hb => (by rw [h.1] at hb; cases hb), fun _ => (by simp only; omega)⟩
    · refine ⟨(by simp only [List.length_nil]; omega), fun _ => (by simp only [List.length_nil]; omega), fun _ => rfl, fun hb => (by cases hb)⟩
  · by_cases h : s.head? = some 34
    · have ht' := ht h
      simp only [h, if_true, List.length_nil]
      exact ⟨(by omega), fun _ => (by omega), fun _ => (by simp), fun hb => (by simp at hb)⟩
    · simp only [h, if_false, List.length_nil]
      exact ⟨(by omega), fun h' => (by simp at h'), fun _ => (by simp), fun hb => (by simp at hb)⟩

/-- What a sign leaves. -/
theorem takes_some (c : UInt8) (s : Str) (bad : Bool) (h : s.length ≤ 1099511627776) : ∃ b t, codec_reader_takes_x [c] ⟨s, bad⟩ = some (b, ⟨t, bad⟩) ∧ ((b = true ∧ t.length + 1 = s.length) ∨ (b = false ∧ t = s)) := by
  rw [takes_eq c s bad h]
  by_cases hc : s.head? = some c
  · cases s with
    | nil => cases hc
    | cons b s => exact ⟨true, s, by simp [hc], .inl ⟨rfl, by simp⟩⟩
  · exact ⟨false, s, by simp [hc], .inr ⟨rfl, rfl⟩⟩
theorem want_some (c : UInt8) (s : Str) (bad : Bool) (h : s.length ≤ 1099511627776) : ∃ b t, codec_reader_want_x [c] ⟨s, bad⟩ = some ⟨t, b⟩ ∧ ((b = bad ∧ t.length + 1 = s.length) ∨ (b = true ∧ t = s)) := by
  rw [want_eq c s bad h]
  by_cases hc : s.head? = some c
  · cases s with
    | nil => cases hc
    | cons b s => exact ⟨bad, s, by simp [hc], .inl ⟨rfl, by simp⟩⟩
  · exact ⟨true, s, by simp [hc], .inr ⟨rfl, rfl⟩⟩
theorem name_some (s : Str) (bad : Bool) (h : s.length ≤ 1099511627776) : ∃ w t, codec_reader_name_x ⟨s, bad⟩ = some (w, ⟨t, bad⟩) ∧ w.length + t.length = s.length :=
  ⟨_, _, name_read s bad h, by rw [← List.length_append, List.takeWhile_append_dropWhile]⟩

theorem strsW_app (a b : List Str) : strsW (a ++ b) = strsW a + strsW b := by
  induction a with
  | nil => simp [strsW]
  | cons x a ih => simp only [List.cons_append, strsW, ih]; omega
theorem attrsW_app (a b : List api_Attr) : attrsW (a ++ b) = attrsW a + attrsW b := by
  induction a with
  | nil => simp [attrsW]
  | cons x a ih => simp only [List.cons_append, attrsW, ih]; omega
theorem marks_some (bad : Bool) : ∀ (N : Nat) (s : Str) (acc : List Str), s.length ≤ N → s.length ≤ 1048576 → acc.length + s.length ≤ 1048576 → ∃ m t, (∀ k, N + 2 ≤ k → codec_reader_text_x_l0 k true acc ⟨s, bad⟩ = some (m, ⟨t, bad⟩)) ∧ t.length ≤ s.length ∧ strsW m + t.length ≤ strsW acc + s.length + 1 := by
  intro N
  induction N with
  | zero =>
    intro s acc hs hb ha
    have : s = [] := List.eq_nil_of_length_eq_zero (by omega)
    subst this
    refine ⟨acc ++ [[]], [], fun k hk => ?_, by simp, ?_⟩
    · obtain ⟨k, rfl⟩ : ∃ j, k = j + 2 := ⟨k - 2, by omega⟩
      rw [codec_reader_text_x_l0]
      simp only [if_true]
      rw [name_read [] bad (by simp)]
      simp only [List.takeWhile_nil, List.dropWhile_nil, Option.bind_some]
      rw [app16 acc [] 1048576 (by omega)]
      simp only [Option.bind_some]
      rw [takes_eq 44 [] bad (by simp)]
      simp only [List.head?_nil, reduceCtorEq, if_false, Option.bind_some]
      rw [codec_reader_text_x_l0]
      simp
    · rw [strsW_app]; simp [strsW]
  | succ N ih =>
    intro s acc hs hb ha
    obtain ⟨w, t, h1, h2⟩ := name_some s bad (by omega)
    obtain ⟨b, t2, h3, h4⟩ := takes_some 44 t bad (by omega)
    rcases h4 with ⟨rfl, h4⟩ | ⟨rfl, rfl⟩
    · obtain ⟨m, t3, g1, g2, g3⟩ := ih t2 (acc ++ [w]) (by omega) (by omega) (by simp; omega)
      refine ⟨m, t3, fun k hk => ?_, by omega, ?_⟩
      · obtain ⟨k, rfl⟩ : ∃ j, k = j + 1 := ⟨k - 1, by omega⟩
        rw [codec_reader_text_x_l0]
        simp only [if_true]
        rw [h1]
        simp only [Option.bind_some]
        rw [app16 acc w 1048576 (by omega)]
        simp only [Option.bind_some]
        rw [h3]
        simp only [Option.bind_some]
        exact g1 k (by omega)
      · rw [strsW_app] at g3
        simp only [strsW] at g3
        omega
    · refine ⟨acc ++ [w], t2, fun k hk => ?_, by omega, ?_⟩
      · obtain ⟨k, rfl⟩ : ∃ j, k = j + 2 := ⟨k - 2, by omega⟩
        rw [codec_reader_text_x_l0]
        simp only [if_true]
        rw [h1]
        simp only [Option.bind_some]
        rw [app16 acc w 1048576 (by omega)]
        simp only [Option.bind_some]
        rw [h3]
        simp only [Option.bind_some]
        rw [codec_reader_text_x_l0]
        simp
      · rw [strsW_app]
        simp only [strsW]
        omega

/-- What a node's reading keeps to: what is left is shorter (or it is bad), and the node weighs no more than what was read. -/
def GoodR (s : Str) (res : api_Node × codec_reader) : Prop :=
  res.2.left.length ≤ s.length ∧ (res.2.bad = true ∨ res.2.left.length < s.length) ∧ nwt res.1 + 8 * res.2.left.length ≤ 8 * s.length + (if res.2.bad = true then 8 else 0)

theorem text_some (s : Str) (h : s.length ≤ 1048576) (h34 : s.head? = some 34) : ∃ res, codec_reader_text_x ⟨s, false⟩ = some res ∧ GoodR s res := by
  obtain ⟨q1, q2, q3, q4⟩ := quotedR_len s false
  have q2 := q2 h34
  unfold codec_reader_text_x
  rw [quoted_eq s false (by omega)]
  generalize quotedR s false = Q at *
  obtain ⟨v, r0⟩ := Q
  obtain ⟨l0, b0⟩ := r0
  simp only at q1 q2 q4
  simp only [Option.bind_some]
  obtain ⟨b, t, h1, h2⟩ := takes_some 60 l0 b0 (by omega)
  rw [h1]
  simp only [Option.bind_some]
  rcases h2 with ⟨rfl, h2⟩ | ⟨rfl, rfl⟩
  · simp only [Bool.not_true, Bool.false_eq_true, if_false]
    obtain ⟨m, t2, g1, g2, g3⟩ := marks_some b0 t.length t [] (Nat.le_refl _) (by omega) (by simp; omega)
    rw [lim_of (t.length + 2) g1]
    simp only [Option.bind_some]
    obtain ⟨b2, t3, g4, g5⟩ := want_some 62 t2 b0 (by omega)
    rw [g4]
    have g6 : t3.length ≤ t2.length := by rcases g5 with ⟨_, g5⟩ | ⟨_, rfl⟩ <;> omega
    simp only [strsW] at g3
    refine ⟨_, rfl, ?_, ?_, ?_⟩
    · simp only; omega
    · right; simp only; omega
    · simp only [nwt, nwts, attrsW, List.length_cons, List.length_nil]
      cases b2 with
      | true => simp only [if_true]; omega
      | false =>
        simp only [Bool.false_eq_true, if_false]
        rcases g5 with ⟨g5, g7⟩ | ⟨g5, _⟩
        · have := q4 g5.symm
          omega
        · cases g5
  · simp only [Bool.not_false, if_true]
    refine ⟨_, rfl, ?_, ?_, ?_⟩
    · simp only; omega
    · right; simp only; omega
    · simp only [nwt, nwts, attrsW, strsW, List.length_cons, List.length_nil]
      cases b0 with
      | true => simp only [if_true]; omega
      | false =>
        have := q4 rfl
        simp only [Bool.false_eq_true, if_false]
        omega

theorem attrs_some : ∀ (N : Nat) (s : Str) (bad : Bool) (acc : List api_Attr), s.length ≤ N → s.length ≤ 1048576 → acc.length + s.length ≤ 1048576 → ∃ l r, (∀ k, N + 2 ≤ k → codec_reader_node_x_l1 k true acc ⟨s, bad⟩ = some (l, r)) ∧ r.left.length ≤ s.length ∧ attrsW l + r.left.length ≤ attrsW acc + s.length + 1 ∧ (bad = true → r.bad = true) := by
  intro N
  induction N with
  | zero =>
    intro s bad acc hs hb ha
    have : s = [] := List.eq_nil_of_length_eq_zero (by omega)
    subst this
    cases bad with
    | true =>
      refine ⟨acc, ⟨[], true⟩, fun k hk => ?_, by simp, by simp, fun _ => rfl⟩
      obtain ⟨k, rfl⟩ : ∃ j, k = j + 1 := ⟨k - 1, by omega⟩
      rw [codec_reader_node_x_l1]
      simp
    | false =>
      refine ⟨acc ++ [⟨[], []⟩], ⟨[], true⟩, fun k hk => ?_, by simp, by rw [attrsW_app]; simp [attrsW], fun _ => rfl⟩
      obtain ⟨k, rfl⟩ : ∃ j, k = j + 2 := ⟨k - 2, by omega⟩
      rw [codec_reader_node_x_l1]
      simp only [if_true, Bool.not_false]
      rw [name_read [] false (by simp)]
      simp only [List.takeWhile_nil, List.dropWhile_nil, Option.bind_some]
      rw [want_eq 61 [] false (by simp)]
      simp only [List.head?_nil, reduceCtorEq, if_false, Option.bind_some]
      rw [quoted_eq [] true (by simp)]
      simp only [quotedR, Bool.true_eq_false, false_and, if_false, List.head?_nil, reduceCtorEq, Option.bind_some]
      rw [app32 acc ⟨[], []⟩ 1048576 (by omega)]
      simp only [Option.bind_some]
      rw [takes_eq 32 [] true (by simp)]
      simp only [List.head?_nil, reduceCtorEq, if_false, Option.bind_some]
      rw [codec_reader_node_x_l1]
      simp
  | succ N ih =>
    intro s bad acc hs hb ha
    cases bad with
    | true =>
      refine ⟨acc, ⟨s, true⟩, fun k hk => ?_, by simp, by simp, fun _ => rfl⟩
      obtain ⟨k, rfl⟩ : ∃ j, k = j + 1 := ⟨k - 1, by omega⟩
      rw [codec_reader_node_x_l1]
      simp
    | false =>
      obtain ⟨w, t, h1, h2⟩ := name_some s false (by omega)
      obtain ⟨b, t2, h3, h4⟩ := want_some 61 t false (by omega)
      have h4' : t2.length ≤ t.length := by rcases h4 with ⟨_, h4⟩ | ⟨_, rfl⟩ <;> omega
      obtain ⟨q1, _, q3, _⟩ := quotedR_len t2 b
      have h5 := quoted_eq t2 b (by omega)
      generalize quotedR t2 b = Q at *
      obtain ⟨v, r0⟩ := Q
      obtain ⟨l0, b0⟩ := r0
      simp only at q1 q3
      obtain ⟨b3, t3, h6, h7⟩ := takes_some 32 l0 b0 (by omega)
      have step : ∀ k, codec_reader_node_x_l1 (k + 1) true acc ⟨s, false⟩ = codec_reader_node_x_l1 k b3 (acc ++ [⟨w, v⟩]) ⟨t3, b0⟩ := by
        intro k
        rw [codec_reader_node_x_l1]
        simp only [if_true, Bool.not_false]
        rw [h1]
        simp only [Option.bind_some]
        rw [h3]
        simp only [Option.bind_some]
        rw [h5]
        simp only [Option.bind_some]
        rw [app32 acc ⟨w, v⟩ 1048576 (by omega)]
        simp only [Option.bind_some]
        rw [h6]
        rfl
      rcases h7 with ⟨rfl, h7⟩ | ⟨rfl, rfl⟩
      · obtain ⟨l, r, g1, g2, g3, g4⟩ := ih t3 b0 (acc ++ [⟨w, v⟩]) (by omega) (by omega) (by simp; omega)
        refine ⟨l, r, fun k hk => ?_, by omega, ?_, fun h => by cases h⟩
        · obtain ⟨k, rfl⟩ : ∃ j, k = j + 1 := ⟨k - 1, by omega⟩
          rw [step]
          exact g1 k (by omega)
        · rw [attrsW_app] at g3
          simp only [attrsW] at g3
          omega
      · refine ⟨acc ++ [⟨w, v⟩], ⟨t3, b0⟩, fun k hk => ?_, by simp only; omega, ?_, fun h => by cases h⟩
        · obtain ⟨k, rfl⟩ : ∃ j, k = j + 2 := ⟨k - 2, by omega⟩
          rw [step, codec_reader_node_x_l1]
          simp
        · rw [attrsW_app]
          simp only [attrsW]
          omega

theorem kids_some (M : Nat) (R : Str → api_Node × codec_reader) (hM : M ≤ 1048576) (hR : ∀ s, s.length ≤ M → GoodR s (R s)) : ∀ (N : Nat) (s : Str) (bad : Bool) (acc : List api_Node), s.length ≤ N → s.length ≤ M → acc.length + s.length ≤ 1048576 →
    ∃ l r, (∀ f : codec_reader → Option (api_Node × codec_reader), (∀ s, s.length ≤ M → f ⟨s, false⟩ = some (R s)) → ∀ k, N + 2 ≤ k → codec_reader_node_x_l2 f k acc ⟨s, bad⟩ = some (l, r)) ∧ r.left.length ≤ s.length ∧ nwts l + 8 * r.left.length ≤ nwts acc + 8 * s.length + (if r.bad = true ∧ bad = false then 8 else 0) ∧ (bad = true → l = acc ∧ r = ⟨s, true⟩) := by
  intro N
  induction N with
  | zero =>
    intro s bad acc hs hb ha
    have : s = [] := List.eq_nil_of_length_eq_zero (by omega)
    subst this
    refine ⟨acc, ⟨[], bad⟩, fun f hf k hk => ?_, by simp, by simp, fun h => by subst h; exact ⟨rfl, rfl⟩⟩
    obtain ⟨k, rfl⟩ : ∃ j, k = j + 1 := ⟨k - 1, by omega⟩
    rw [codec_reader_node_x_l2]
    cases bad <;> simp
  | succ N ih =>
    intro s bad acc hs hb ha
    cases bad with
    | true =>
      refine ⟨acc, ⟨s, true⟩, fun f hf k hk => ?_, by simp, by simp, fun _ => ⟨rfl, rfl⟩⟩
      obtain ⟨k, rfl⟩ : ∃ j, k = j + 1 := ⟨k - 1, by omega⟩
      rw [codec_reader_node_x_l2]
      simp
    | false =>
      cases s with
      | nil =>
        refine ⟨acc, ⟨[], false⟩, fun f hf k hk => ?_, by simp, by simp, fun h => by cases h⟩
        obtain ⟨k, rfl⟩ : ∃ j, k = j + 1 := ⟨k - 1, by omega⟩
        rw [codec_reader_node_x_l2]
        simp
      | cons b s =>
        have hg : (((b :: s : Str) == []) : Bool) = false := by simp
        have hcond : (0 : Int) ≤ 0 ∧ (0 : Int) < ((b :: s : Str).length : Int) := ⟨by omega, by simp only [List.length_cons]; omega⟩
        by_cases h93 : ((((b :: s : Str).getD (0 : Int).toNat 0).toNat : Int) == 93) = true
        · refine ⟨acc, ⟨b :: s, false⟩, fun f hf k hk => ?_, by simp, by simp, fun h => by cases h⟩
          obtain ⟨k, rfl⟩ : ∃ j, k = j + 1 := ⟨k - 1, by omega⟩
          rw [codec_reader_node_x_l2]
          simp only [Bool.false_eq_true, if_false, hg]
          rw [chk_eq hcond, if_pos h93]
        · obtain ⟨w1, w2, w3⟩ := hR (b :: s) hb
          obtain ⟨X, hX⟩ : ∃ X, X = R (b :: s) := ⟨_, rfl⟩
          rw [← hX] at w1 w2 w3
          obtain ⟨n, r1⟩ := X
          obtain ⟨l1, b1⟩ := r1
          simp only at w1 w2 w3
          have step : ∀ f : codec_reader → Option (api_Node × codec_reader), (∀ s, s.length ≤ M → f ⟨s, false⟩ = some (R s)) → ∀ k, codec_reader_node_x_l2 f (k + 1) acc ⟨b :: s, false⟩ = codec_reader_node_x_l2 f k (acc ++ [n]) ⟨l1, b1⟩ := by
            intro f hf k
            rw [codec_reader_node_x_l2]
            simp only [Bool.false_eq_true, if_false, hg]
            rw [chk_eq hcond, if_neg h93, hf (b :: s) hb, ← hX]
            simp only [Option.bind_some]
            have hap : app 104 acc [n] = some (acc ++ [n]) := app_eq (Nat.le_trans (Nat.mul_le_mul_right 104 (show acc.length + [n].length ≤ 1048577 by have : [n].length = 1 := rfl; omega)) (by decide))
            rw [hap]
            rfl
          cases b1 with
          | true =>
            refine ⟨acc ++ [n], ⟨l1, true⟩, fun f hf k hk => ?_, by simp only; omega, ?_, fun h => by cases h⟩
            · obtain ⟨k, rfl⟩ : ∃ j, k = j + 2 := ⟨k - 2, by omega⟩
              rw [step f hf, codec_reader_node_x_l2]
              simp
            · rw [nwts_app]
              simp only [nwts, if_true, and_self] at w3 ⊢
              omega
          | false =>
            have hlt : l1.length < (b :: s).length := by rcases w2 with h | h; cases h; exact h
            obtain ⟨l, r, g1, g2, g3, _⟩ := ih l1 false (acc ++ [n]) (by omega) (by omega) (by simp at ha hlt ⊢; omega)
            refine ⟨l, r, fun f hf k hk => ?_, by omega, ?_, fun h => by cases h⟩
            · obtain ⟨k, rfl⟩ : ∃ j, k = j + 1 := ⟨k - 1, by omega⟩
              rw [step f hf]
              exact g1 f hf k (by omega)
            · rw [nwts_app] at g3
              simp only [nwts, Bool.false_eq_true, if_false, and_true] at g3 w3 ⊢
              omega

theorem node_total : ∀ (N : Nat), N ≤ 1048576 → ∀ s : Str, s.length ≤ N → ∃ res, GoodR s res ∧ ∀ kr, N + 1 ≤ kr → codec_reader_node_x_k kr ⟨s, false⟩ = some res := by
  intro N
  induction N with
  | zero =>
    intro hN s hs
    have : s = [] := List.eq_nil_of_length_eq_zero (by omega)
    subst this
    refine ⟨(⟨[], [], [], [], []⟩, ⟨[], true⟩), ⟨by simp, .inl rfl, by simp [nwt, nwts, strsW, attrsW]⟩, fun kr hk => ?_⟩
    obtain ⟨kr, rfl⟩ : ∃ j, kr = j + 1 := ⟨kr - 1, by omega⟩
    have hl2 : (lim fun k => codec_reader_node_x_l2 (codec_reader_node_x_k kr) k [] ⟨[], true⟩) = some ([], ⟨[], true⟩) := lim_of 1 fun k hk => by
      obtain ⟨k, rfl⟩ : ∃ j, k = j + 1 := ⟨k - 1, by omega⟩
      rw [codec_reader_node_x_l2]
      simp
    rw [codec_reader_node_x_k]
    simp only
    rw [hasP_eq 34 [] (by simp)]
    simp only [List.head?_nil, reduceCtorEq, decide_false, Option.bind_some, Bool.false_eq_true, if_false]
    rw [name_read [] false (by simp)]
    simp only [List.takeWhile_nil, List.dropWhile_nil, Option.bind_some]
    rw [takes_eq 40 [] false (by simp)]
    simp only [List.head?_nil, reduceCtorEq, if_false, Option.bind_some, Bool.false_eq_true]
    rw [want_eq 91 [] false (by simp)]
    simp only [List.head?_nil, reduceCtorEq, if_false, Option.bind_some]
    rw [hl2]
    simp only [Option.bind_some]
    rw [want_eq 93 [] true (by simp)]
    simp
  | succ N ih =>
    intro hN s hs
    by_cases h34 : s.head? = some 34
    · obtain ⟨res, h1, h2⟩ := text_some s (by omega) h34
      refine ⟨res, h2, fun kr hk => ?_⟩
      obtain ⟨kr, rfl⟩ : ∃ j, kr = j + 1 := ⟨kr - 1, by omega⟩
      rw [codec_reader_node_x_k]
      simp only
      rw [hasP_eq 34 s (by omega)]
      simp only [h34, decide_true, Option.bind_some, if_true]
      rw [h1]
      rfl
    · -- what nodes behind it come to
      let R : Str → api_Node × codec_reader := fun s => if h : s.length ≤ N then Classical.choose (ih (by omega) s h) else (⟨[], [], [], [], []⟩, ⟨[], true⟩)
      have hR : ∀ s, s.length ≤ N → GoodR s (R s) ∧ ∀ kr, N + 1 ≤ kr → codec_reader_node_x_k kr ⟨s, false⟩ = some (R s) := by
        intro s h
        have := Classical.choose_spec (ih (by omega) s h)
        simp only [R, h, dif_pos]
        exact this
      clear_value R
      obtain ⟨w, t, n1, n2⟩ := name_some s false (by omega)
      obtain ⟨b1, t1, n3, n4⟩ := takes_some 40 t false (by omega)
      -- attributes
      have hat : ∃ A l2 b2, ((codec_reader_takes_x [40] ⟨t, false⟩).bind fun (r_7, reader_8) => if (r_7) = true then (lim fun k => codec_reader_node_x_l1 k true ([] : List api_Attr) reader_8).bind fun (v_29, r_30) => (codec_reader_want_x ([41] : Str) r_30).bind fun reader_31 => some (v_29, reader_31) else some (([] : List api_Attr), reader_8)) = some (A, ⟨l2, b2⟩) ∧ l2.length ≤ t.length ∧ attrsW A + l2.length ≤ t.length := by
        rw [n3]
        simp only [Option.bind_some]
        rcases n4 with ⟨rfl, n4⟩ | ⟨rfl, rfl⟩
        · simp only [if_true]
          obtain ⟨l, r, g1, g2, g3, g4⟩ := attrs_some t1.length t1 false [] (Nat.le_refl _) (by omega) (by simp; omega)
          rw [lim_of (t1.length + 2) g1]
          simp only [Option.bind_some]
          obtain ⟨rl, rb⟩ := r
          simp only [attrsW] at g2 g3
          obtain ⟨b3, t3, g5, g6⟩ := want_some 41 rl rb (by omega)
          rw [g5]
          exact ⟨l, t3, b3, rfl, by rcases g6 with ⟨_, g6⟩ | ⟨_, rfl⟩ <;> omega, by rcases g6 with ⟨_, g6⟩ | ⟨_, rfl⟩ <;> omega⟩
        · simp only [Bool.false_eq_true, if_false]
          exact ⟨[], t1, false, rfl, Nat.le_refl _, by simp [attrsW]⟩
      obtain ⟨A, l2, b2, a1, a2, a3⟩ := hat
      obtain ⟨b3, t3, w1, w2⟩ := want_some 91 l2 b2 (by omega)
      have w2' : t3.length ≤ l2.length := by rcases w2 with ⟨_, w2⟩ | ⟨_, rfl⟩ <;> omega
      -- kids
      have hkids : ∃ l r, (∀ kr, N + 1 ≤ kr → (lim fun k => codec_reader_node_x_l2 (codec_reader_node_x_k kr) k [] ⟨t3, b3⟩) = some (l, r)) ∧ r.left.length ≤ t3.length ∧ nwts l + 8 * r.left.length ≤ 8 * t3.length + (if r.bad = true ∧ b3 = false then 8 else 0) ∧ (b3 = true → l = [] ∧ r = ⟨t3, true⟩) := by
        cases b3 with
        | true =>
          refine ⟨[], ⟨t3, true⟩, fun kr _ => lim_of 1 fun k hk => ?_, by simp, by simp [nwts], fun _ => ⟨rfl, rfl⟩⟩
          obtain ⟨k, rfl⟩ : ∃ j, k = j + 1 := ⟨k - 1, by omega⟩
          rw [codec_reader_node_x_l2]
          simp
        | false =>
          have ht3 : t3.length ≤ N := by
            rcases w2 with ⟨_, w2⟩ | ⟨h, _⟩
            · omega
            · cases h
          obtain ⟨l, r, g1, g2, g3, _⟩ := kids_some N R (by omega) (fun s h => (hR s h).1) t3.length t3 false [] (Nat.le_refl _) ht3 (by simp; omega)
          refine ⟨l, r, fun kr hkr => lim_of (t3.length + 2) (g1 (codec_reader_node_x_k kr) fun s h => (hR s h).2 kr hkr), g2, ?_, fun h => by cases h⟩
          simpa [nwts] using g3
      obtain ⟨l, r, k1, k2, k3, k4⟩ := hkids
      obtain ⟨rl, rb⟩ := r
      simp only at k2 k3
      obtain ⟨b5, t5, x1, x2⟩ := want_some 93 rl rb (by omega)
      have x2' : t5.length ≤ rl.length := by rcases x2 with ⟨_, x2⟩ | ⟨_, rfl⟩ <;> omega
      refine ⟨(⟨w, [], [], A, l⟩, ⟨t5, b5⟩), ⟨by simp only; omega, ?_, ?_⟩, fun kr hk => ?_⟩
      · simp only
        cases b5 with
        | true => exact .inl rfl
        | false =>
          right
          rcases x2 with ⟨h, x2⟩ | ⟨h, _⟩
          · omega
          · cases h
      · simp only [nwt, strsW, List.length_nil]
        cases b5 with
        | true =>
          simp only [if_true]
          cases b3 with
          | true =>
            obtain ⟨rfl, _⟩ := k4 rfl
            simp only [nwts, Bool.true_eq_false, and_false, if_false] at k3 ⊢
            omega
          | false =>
            have h91 : t3.length + 1 = l2.length := by
              rcases w2 with ⟨_, w2⟩ | ⟨h, _⟩
              · exact w2
              · cases h
            split at k3 <;> omega
        | false =>
          simp only [Bool.false_eq_true, if_false]
          rcases x2 with ⟨h, x2⟩ | ⟨h, _⟩
          · subst h
            simp only [Bool.false_eq_true, false_and, if_false] at k3
            cases b3 with
            | true =>
              obtain ⟨_, h⟩ := k4 rfl
              cases h
            | false =>
              have h91 : t3.length + 1 = l2.length := by
                rcases w2 with ⟨_, w2⟩ | ⟨h, _⟩
                · exact w2
                · cases h
              omega
          · cases h
      · obtain ⟨kr, rfl⟩ : ∃ j, kr = j + 1 := ⟨kr - 1, by omega⟩
        rw [codec_reader_node_x_k]
        simp only
        rw [hasP_eq 34 s (by omega)]
        simp only [h34, decide_false, Option.bind_some, Bool.false_eq_true, if_false]
        rw [n1]
        simp only [Option.bind_some]
        rw [a1]
        simp only [Option.bind_some]
        rw [w1]
        simp only [Option.bind_some]
        rw [k1 kr (by omega)]
        simp only [Option.bind_some]
        rw [x1]
        rfl

/-- A text that no well-formed node is written as. -/
theorem parse_none (s : Str) (hs : s.length ≤ 1048576) (h : ¬ ∃ m, formB m = true ∧ nwt m ≤ 268435456 ∧ writeN m = s) : codec_Parse s = some (zeroN, 2) := by
  obtain ⟨res, ⟨h1, _, h3⟩, h4⟩ := node_total s.length hs s (Nat.le_refl _)
  have h5 : codec_reader_node_x ⟨s, false⟩ = some res := by
    unfold codec_reader_node_x
    exact lim_of (s.length + 1) h4
  obtain ⟨n, r⟩ := res
  obtain ⟨l, b⟩ := r
  simp only at h1 h3
  have hw : nwt n ≤ 16777216 := by split at h3 <;> omega
  have hle := writeN_le n
  unfold codec_Parse
  rw [h5]
  simp only [Option.bind_some]
  rw [write_eq n (by omega)]
  simp only [Option.bind_some]
  rw [check_eq n (by omega)]
  simp only [Option.bind_some]
  cases b with
  | true => simp
  | false =>
    simp only [Bool.false_eq_true, if_false]
    by_cases hl : l = []
    · subst hl
      unfold strings_Builder_String_x
      rw [chk_eq (by omega)]
      simp only [beq_self_eq_true, Bool.not_true, Bool.false_eq_true, if_false, Option.bind_some]
      by_cases he : writeN n = s
      · have hf : formB n = false := by
          rw [Bool.eq_false_iff]
          intro hf
          exact h ⟨n, hf, by omega, he⟩
        have hc : checkN n = 2 := by unfold checkN; rw [if_pos hf]
        simp [he, hc]
      · simp [he]
    · simp [hl]

end Go.Proofs.YtihndopckmdpbaaDoor
