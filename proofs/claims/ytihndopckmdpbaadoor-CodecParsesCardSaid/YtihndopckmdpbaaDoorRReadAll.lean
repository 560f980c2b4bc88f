/- The reference reads every text to an end. -/
import Derived.Test.YtihndopckmdpbaaDoorRRead2
namespace Go.Proofs.YtihndopckmdpbaaDoor
set_option linter.unusedSimpArgs false
set_option linter.unusedVariables false
open Go

theorem rletters_some {S suf : Str} (bad : Bool) (h : suf <:+ S) (hl : S.length ≤ 1048576) : ∃ w t, diptychref2_Reader_letters_x (rs S suf bad) = some (w, rs S t bad) ∧ t <:+ suf ∧ w.length + t.length = suf.length :=
  ⟨_, _, rletters_eq h (by omega), List.dropWhile_suffix _, by rw [← List.length_append, List.takeWhile_append_dropWhile]⟩
theorem reat_some {S suf : Str} (bad : Bool) (h : suf <:+ S) (hl : S.length ≤ 1048576) (d : UInt8) (c : Int) (hc : c = (d.toNat : Int)) : ∃ t b, diptychref2_Reader_eat_x c (rs S suf bad) = some (rs S t b) ∧ t <:+ suf ∧ ((b = bad ∧ t.length + 1 = suf.length ∧ suf.head? = some d) ∨ (b = true ∧ t = suf ∧ suf.head? ≠ some d)) := by
  rw [reat_eq h (by omega) d c hc]
  by_cases hh : suf.head? = some d
  · cases suf with
    | nil => cases hh
    | cons b t =>
      simp only [hh, if_true, List.tail_cons]
      exact ⟨t, bad, rfl, ⟨[b], rfl⟩, .inl ⟨rfl, by simp, trivial⟩⟩
  · simp only [hh, if_false]
    exact ⟨suf, true, rfl, List.suffix_refl _, .inr ⟨rfl, rfl, hh⟩⟩

theorem rmarks_some (S : Str) (bad : Bool) (hl : S.length ≤ 1048576) : ∀ (N : Nat) (suf : Str) (acc : List Str), suf.length ≤ N → suf <:+ S → acc.length + suf.length ≤ 1048577 → ∃ m t, (∀ k, N + 1 ≤ k → diptychref2_Reader_node_x_l0 k acc (rs S suf bad) = some (m, rs S t bad)) ∧ t <:+ suf ∧ strsW m + t.length ≤ strsW acc + suf.length := by
  intro N
  induction N with
  | zero =>
    intro suf acc hn h ha
    have : suf = [] := List.eq_nil_of_length_eq_zero (by omega)
    subst this
    refine ⟨acc, [], fun k hk => ?_, List.suffix_refl _, by simp⟩
    obtain ⟨k, rfl⟩ : ∃ j, k = j + 1 := ⟨k - 1, by omega⟩
    rw [diptychref2_Reader_node_x_l0, ris_eq h 44 44 rfl]
    simp
  | succ N ih =>
    intro suf acc hn h ha
    by_cases hh : suf.head? = some 44
    · cases suf with
      | nil => cases hh
      | cons b s =>
        have h1 := suf_tail h
        obtain ⟨w, t, e1, e2, e3⟩ := rletters_some bad h1 hl
        simp only [List.length_cons] at hn ha
        obtain ⟨m, t2, g1, g2, g3⟩ := ih t (acc ++ [w]) (by omega) (e2.trans h1) (by simp only [List.length_append, List.length_cons, List.length_nil]; omega)
        refine ⟨m, t2, fun k hk => ?_, (g2.trans e2).trans ⟨[b], rfl⟩, ?_⟩
        · obtain ⟨k, rfl⟩ : ∃ j, k = j + 1 := ⟨k - 1, by omega⟩
          rw [diptychref2_Reader_node_x_l0, ris_eq h 44 44 rfl]
          simp only [hh, decide_true, Option.bind_some, if_true]
          rw [reat_eq h (by omega) 44 44 rfl]
          simp only [hh, if_true, List.tail_cons, Option.bind_some]
          rw [e1]
          simp only [Option.bind_some]
          rw [app16 acc w 1048576 (by omega)]
          simp only [Option.bind_some]
          exact g1 k (by omega)
        · rw [strsW_app] at g3
          simp only [strsW, List.length_cons] at g3 ⊢
          omega
    · refine ⟨acc, suf, fun k hk => ?_, List.suffix_refl _, Nat.le_refl _⟩
      obtain ⟨k, rfl⟩ : ∃ j, k = j + 1 := ⟨k - 1, by omega⟩
      rw [diptychref2_Reader_node_x_l0, ris_eq h 44 44 rfl]
      simp [hh]

theorem rattrs_some (S : Str) (hl : S.length ≤ 1048576) : ∀ (N : Nat) (suf : Str) (bad : Bool) (d : UInt8) (sign : Int) (acc : List api_Attr), sign = (d.toNat : Int) → suf.length ≤ N → suf <:+ S → acc.length + suf.length ≤ 1048577 → ∃ l t b, (∀ k, N + 1 ≤ k → diptychref2_Reader_node_x_l2 k sign acc (rs S suf bad) = some (l, rs S t b)) ∧ t <:+ suf ∧ attrsW l + t.length ≤ attrsW acc + suf.length := by
  intro N
  induction N with
  | zero =>
    intro suf bad d sign acc hs hn h ha
    have : suf = [] := List.eq_nil_of_length_eq_zero (by omega)
    subst this
    refine ⟨acc, [], bad, fun k hk => ?_, List.suffix_refl _, by simp⟩
    obtain ⟨k, rfl⟩ : ∃ j, k = j + 1 := ⟨k - 1, by omega⟩
    rw [diptychref2_Reader_node_x_l2, ris_eq h d sign hs]
    simp
  | succ N ih =>
    intro suf bad d sign acc hs hn h ha
    by_cases hh : suf.head? = some d
    · cases bad with
      | true =>
        refine ⟨acc, suf, true, fun k hk => ?_, List.suffix_refl _, Nat.le_refl _⟩
        obtain ⟨k, rfl⟩ : ∃ j, k = j + 1 := ⟨k - 1, by omega⟩
        rw [diptychref2_Reader_node_x_l2, ris_eq h d sign hs]
        simp [hh, rs_B]
      | false =>
        cases suf with
        | nil => cases hh
        | cons b s =>
          have h1 := suf_tail h
          obtain ⟨w, t, e1, e2, e3⟩ := rletters_some false h1 hl
          obtain ⟨t2, b2, e4, e5, e6⟩ := reat_some false (e2.trans h1) hl 61 61 rfl
          obtain ⟨v, t3, b3, e7, e8, e9, _⟩ := rquoted_some b2 (e5.trans (e2.trans h1)) hl
          have l5 := e5.length_le
          simp only [List.length_cons] at hn ha
          obtain ⟨l, t4, b4, g1, g2, g3⟩ := ih t3 b3 32 32 (acc ++ [⟨w, v⟩]) rfl (by omega) (e8.trans (e5.trans (e2.trans h1))) (by simp only [List.length_append, List.length_cons, List.length_nil]; omega)
          refine ⟨l, t4, b4, fun k hk => ?_, (g2.trans (e8.trans (e5.trans e2))).trans ⟨[b], rfl⟩, ?_⟩
          · obtain ⟨k, rfl⟩ : ∃ j, k = j + 1 := ⟨k - 1, by omega⟩
            rw [diptychref2_Reader_node_x_l2, ris_eq h d sign hs]
            simp only [hh, decide_true, Option.bind_some, if_true, rs_B, Bool.not_false]
            rw [reat_eq h (by omega) d sign hs]
            simp only [hh, if_true, List.tail_cons, Option.bind_some]
            rw [e1]
            simp only [Option.bind_some]
            rw [e4]
            simp only [Option.bind_some]
            rw [e7]
            simp only [Option.bind_some]
            rw [app32 acc ⟨w, v⟩ 1048576 (by omega)]
            simp only [Option.bind_some]
            exact g1 k (by omega)
          · rw [attrsW_app] at g3
            simp only [attrsW, List.length_cons] at g3 ⊢
            omega
    · refine ⟨acc, suf, bad, fun k hk => ?_, List.suffix_refl _, Nat.le_refl _⟩
      obtain ⟨k, rfl⟩ : ∃ j, k = j + 1 := ⟨k - 1, by omega⟩
      rw [diptychref2_Reader_node_x_l2, ris_eq h d sign hs]
      simp [hh]

/-- What a node's reading keeps to. -/
def GoodT (s : Str) (n : api_Node) (t : Str) (b : Bool) : Prop :=
  t <:+ s ∧ (b = true ∨ t.length < s.length) ∧ nwt n + 8 * t.length ≤ 8 * s.length + (if b = true then 8 else 0)

theorem rkids_some (S : Str) (hl : S.length ≤ 1048576) (left : Int) (R : Str → api_Node × Str × Bool) (hR : ∀ s, s <:+ S → GoodT s (R s).1 (R s).2.1 (R s).2.2) : ∀ (N : Nat) (suf : Str) (bad : Bool) (acc : List api_Node), suf.length ≤ N → suf <:+ S → acc.length + suf.length ≤ 1048577 →
    ∃ l t b, (∀ f : Int → diptychref2_Reader → Option (api_Node × diptychref2_Reader), (∀ s, s <:+ S → f left (rs S s false) = some ((R s).1, rs S (R s).2.1 (R s).2.2)) → ∀ k, N + 2 ≤ k → diptychref2_Reader_nodes_x_l0 left f k acc (rs S suf bad) = some (l, rs S t b)) ∧ t <:+ suf ∧ nwts l + 8 * t.length ≤ nwts acc + 8 * suf.length + (if b = true ∧ bad = false then 8 else 0) ∧ (bad = true → l = acc ∧ t = suf ∧ b = true) := by
  intro N
  induction N with
  | zero =>
    intro suf bad acc hn h ha
    have : suf = [] := List.eq_nil_of_length_eq_zero (by omega)
    subst this
    refine ⟨acc, [], bad, fun f hf k hk => ?_, List.suffix_refl _, by simp, fun h => ⟨rfl, rfl, h⟩⟩
    obtain ⟨k, rfl⟩ : ∃ j, k = j + 1 := ⟨k - 1, by omega⟩
    rw [diptychref2_Reader_nodes_x_l0]
    cases bad with
    | true => simp [rs_B]
    | false =>
      simp only [rs_B, Bool.not_false, if_true, rs_S]
      refine (if_neg ?_).trans rfl
      simp [rs]
  | succ N ih =>
    intro suf bad acc hn h ha
    cases bad with
    | true =>
      refine ⟨acc, suf, true, fun f hf k hk => ?_, List.suffix_refl _, by simp, fun _ => ⟨rfl, rfl, rfl⟩⟩
      obtain ⟨k, rfl⟩ : ∃ j, k = j + 1 := ⟨k - 1, by omega⟩
      rw [diptychref2_Reader_nodes_x_l0]
      simp [rs_B]
    | false =>
      cases suf with
      | nil =>
        refine ⟨acc, [], false, fun f hf k hk => ?_, List.suffix_refl _, by simp, fun h => by cases h⟩
        obtain ⟨k, rfl⟩ : ∃ j, k = j + 1 := ⟨k - 1, by omega⟩
        rw [diptychref2_Reader_nodes_x_l0]
        simp only [rs_B, Bool.not_false, if_true, rs_S]
        refine (if_neg ?_).trans rfl
        simp [rs]
      | cons c s =>
        have hle := suf_le h
        have g : decide ((rs S (c :: s) false).At < (S.length : Int)) = true := by
          have : (rs S (c :: s) false).At = (S.length : Int) - ((c :: s).length : Int) := rfl
          rw [this]
          exact decide_eq_true (by simp only [List.length_cons]; omega)
        by_cases h93 : c = 93
        · subst h93
          refine ⟨acc, 93 :: s, false, fun f hf k hk => ?_, List.suffix_refl _, by simp, fun h => by cases h⟩
          obtain ⟨k, rfl⟩ : ∃ j, k = j + 1 := ⟨k - 1, by omega⟩
          rw [diptychref2_Reader_nodes_x_l0]
          simp only [rs_B, Bool.not_false, if_true, rs_S]
          refine (if_pos g).trans ?_
          rw [ris_eq h 93 93 rfl]
          simp
        · obtain ⟨w1, w2, w3⟩ := hR (c :: s) h
          obtain ⟨X, hX⟩ : ∃ X, X = R (c :: s) := ⟨_, rfl⟩
          rw [← hX] at w1 w2 w3
          obtain ⟨n, t1, b1⟩ := X
          simp only at w1 w2 w3
          have step : ∀ f : Int → diptychref2_Reader → Option (api_Node × diptychref2_Reader), (∀ s, s <:+ S → f left (rs S s false) = some ((R s).1, rs S (R s).2.1 (R s).2.2)) → ∀ k, diptychref2_Reader_nodes_x_l0 left f (k + 1) acc (rs S (c :: s) false) = diptychref2_Reader_nodes_x_l0 left f k (acc ++ [n]) (rs S t1 b1) := by
            intro f hf k
            rw [diptychref2_Reader_nodes_x_l0]
            simp only [rs_B, Bool.not_false, if_true, rs_S]
            refine (if_pos g).trans ?_
            rw [ris_eq h 93 93 rfl]
            simp only [List.head?_cons, Option.some.injEq, h93, decide_false, Option.bind_some, Bool.not_false, if_true]
            rw [hf (c :: s) h, ← hX]
            simp only [Option.bind_some]
            have hap : app 104 acc [n] = some (acc ++ [n]) := app_eq (Nat.le_trans (Nat.mul_le_mul_right 104 (show acc.length + [n].length ≤ 1048578 by have : [n].length = 1 := rfl; omega)) (by decide))
            rw [hap]
            rfl
          have hl1 := w1.length_le
          cases b1 with
          | true =>
            refine ⟨acc ++ [n], t1, true, fun f hf k hk => ?_, w1, ?_, fun h => by cases h⟩
            · obtain ⟨k, rfl⟩ : ∃ j, k = j + 2 := ⟨k - 2, by omega⟩
              rw [step f hf, diptychref2_Reader_nodes_x_l0]
              simp [rs_B]
            · rw [nwts_app]
              simp only [nwts, if_true, and_self] at w3 ⊢
              omega
          | false =>
            have hlt : t1.length < (c :: s).length := by rcases w2 with h | h; cases h; exact h
            obtain ⟨l, t, b, g1, g2, g3, _⟩ := ih t1 false (acc ++ [n]) (by omega) (w1.trans h) (by simp at ha hlt ⊢; omega)
            refine ⟨l, t, b, fun f hf k hk => ?_, g2.trans w1, ?_, fun h => by cases h⟩
            · obtain ⟨k, rfl⟩ : ∃ j, k = j + 1 := ⟨k - 1, by omega⟩
              rw [step f hf]
              exact g1 f hf k (by omega)
            · rw [nwts_app] at g3
              simp only [nwts, Bool.false_eq_true, if_false, and_true] at g3 w3 ⊢
              omega

theorem rtext_some (S s : Str) (h : s <:+ S) (hl : S.length ≤ 1048576) : ∃ n t b, GoodT s n t b ∧ ((diptychref2_Reader_quoted_x (rs S s false)).bind fun (r_5, reader_6) =>
        (diptychref2_Reader_is_x (60 : Int) reader_6).bind fun (r_7, reader_8) =>
        if (r_7) = true then
          (diptychref2_Reader_eat_x (60 : Int) reader_8).bind fun reader_9 =>
          (diptychref2_Reader_letters_x reader_9).bind fun (r_10, reader_11) =>
          (app 16 ([] : List Str) [r_10]).bind fun l_12 =>
          (lim fun k => diptychref2_Reader_node_x_l0 k l_12 reader_11).bind fun (v_28, r_29) =>
          (diptychref2_Reader_eat_x (62 : Int) r_29).bind fun reader_30 =>
          some (({ Kind := ([116, 101, 120, 116] : Str), Text := r_5, Marks := v_28, Attrs := ([] : List api_Attr), Kids := [] } : api_Node), reader_30)
        else
          some (({ Kind := ([116, 101, 120, 116] : Str), Text := r_5, Marks := ([] : List Str), Attrs := ([] : List api_Attr), Kids := [] } : api_Node), reader_8)) = some (n, rs S t b) := by
  obtain ⟨v, t0, b0, e1, e2, e3, e4⟩ := rquoted_some false h hl
  rw [e1]
  simp only [Option.bind_some]
  rw [ris_eq (e2.trans h) 60 60 rfl]
  simp only [Option.bind_some]
  by_cases h60 : t0.head? = some 60
  · obtain ⟨t1, b1, e5, e6, e7⟩ := reat_some b0 (e2.trans h) hl 60 60 rfl
    have e7 : b1 = b0 ∧ t1.length + 1 = t0.length := by rcases e7 with ⟨a, b, _⟩ | ⟨_, _, c⟩; exact ⟨a, b⟩; exact (c h60).elim
    obtain ⟨w, t2, e8, e9, e10⟩ := rletters_some b1 (e6.trans (e2.trans h)) hl
    obtain ⟨m, t3, g1, g2, g3⟩ := rmarks_some S b1 hl t2.length t2 [w] (Nat.le_refl _) (e9.trans (e6.trans (e2.trans h))) (by have := suf_le (e9.trans (e6.trans (e2.trans h))); simp only [List.length_cons, List.length_nil]; omega)
    obtain ⟨t4, b4, e11, e12, e13⟩ := reat_some b1 (g2.trans (e9.trans (e6.trans (e2.trans h)))) hl 62 62 rfl
    simp only [h60, decide_true, if_true]
    rw [e5]
    simp only [Option.bind_some]
    rw [e8]
    simp only [Option.bind_some]
    have hap : app 16 ([] : List Str) [w] = some [w] := app_eq (by simp)
    rw [hap]
    simp only [Option.bind_some]
    rw [lim_of (t2.length + 1) g1]
    simp only [Option.bind_some]
    rw [e11]
    have l12 := e12.length_le
    simp only [strsW] at g3
    refine ⟨_, t4, b4, ⟨e12.trans (g2.trans (e9.trans (e6.trans e2))), ?_, ?_⟩, rfl⟩
    · cases b4 with
      | true => exact .inl rfl
      | false => right; have := g2.length_le; omega
    · simp only [nwt, nwts, attrsW, List.length_cons, List.length_nil]
      cases b4 with
      | true => simp only [if_true]; omega
      | false =>
        have hb0 : b0 = false := by
          rcases e13 with ⟨e, _, _⟩ | ⟨e, _, _⟩
          · rw [← e7.1, ← e]
          · cases e
        have := (e4 hb0).1
        simp only [Bool.false_eq_true, if_false]
        omega
  · simp only [h60, decide_false, Bool.false_eq_true, if_false]
    refine ⟨_, t0, b0, ⟨e2, ?_, ?_⟩, rfl⟩
    · cases b0 with
      | true => exact .inl rfl
      | false => right; have := (e4 rfl).1; omega
    · simp only [nwt, nwts, attrsW, strsW, List.length_cons, List.length_nil]
      cases b0 with
      | true => simp only [if_true]; omega
      | false =>
        have := (e4 rfl).1
        simp only [Bool.false_eq_true, if_false]
        omega

theorem rnode_total (S : Str) (hl : S.length ≤ 1048576) : ∀ (L : Nat), L ≤ 1099511627776 → ∀ s : Str, s <:+ S → ∃ n t b, GoodT s n t b ∧ ∀ kr, 2 * L + 1 ≤ kr → diptychref2_Reader_node_x_k kr (L : Int) (rs S s false) = some (n, rs S t b) := by
  intro L
  induction L with
  | zero =>
    intro _ s hs
    refine ⟨⟨[], [], [], [], []⟩, s, true, ⟨List.suffix_refl _, .inl rfl, by simp [nwt, nwts, strsW, attrsW]; omega⟩, fun kr hk => ?_⟩
    obtain ⟨kr, rfl⟩ : ∃ j, kr = j + 1 := ⟨kr - 1, by omega⟩
    rw [diptychref2_Reader_node_x_k]
    have g : (((0 : Nat) : Int) == 0) = true := rfl
    simp only [g, if_true]
    rfl
  | succ L ih =>
    intro hL s hs
    have hle := suf_le hs
    have g0 : (((L + 1 : Nat) : Int) == 0) = false := by rw [beq_eq_false_iff_ne]; omega
    by_cases h34 : s.head? = some 34
    · obtain ⟨n, t, b, h1, h2⟩ := rtext_some S s hs hl
      refine ⟨n, t, b, h1, fun kr hk => ?_⟩
      obtain ⟨kr, rfl⟩ : ∃ j, kr = j + 1 := ⟨kr - 1, by omega⟩
      rw [diptychref2_Reader_node_x_k]
      simp only [g0, Bool.false_eq_true, if_false]
      rw [ris_eq hs 34 34 rfl]
      simp only [h34, decide_true, Option.bind_some, if_true]
      exact h2
    · let R : Str → api_Node × Str × Bool := fun s => if h : s <:+ S then (Classical.choose (ih (by omega) s h), Classical.choose (Classical.choose_spec (ih (by omega) s h)), Classical.choose (Classical.choose_spec (Classical.choose_spec (ih (by omega) s h)))) else (⟨[], [], [], [], []⟩, [], true)
      have hR : ∀ s, s <:+ S → GoodT s (R s).1 (R s).2.1 (R s).2.2 ∧ ∀ kr, 2 * L + 1 ≤ kr → diptychref2_Reader_node_x_k kr (L : Int) (rs S s false) = some ((R s).1, rs S (R s).2.1 (R s).2.2) := by
        intro s h
        have := Classical.choose_spec (Classical.choose_spec (Classical.choose_spec (ih (by omega) s h)))
        simp only [R, h, dif_pos]
        exact this
      clear_value R
      obtain ⟨w, t, n1, n2, n3⟩ := rletters_some false hs hl
      have hat : ∃ A l2 b2, ((diptychref2_Reader_is_x (40 : Int) (rs S t false)).bind fun (r_33, reader_34) =>
            if (r_33) = true then
              (lim fun k => diptychref2_Reader_node_x_l2 k (40 : Int) ([] : List api_Attr) reader_34).bind fun (v_58, r_59) =>
              (diptychref2_Reader_eat_x (41 : Int) r_59).bind fun reader_60 =>
              some (v_58, reader_60)
            else
              some (([] : List api_Attr), reader_34)) = some (A, rs S l2 b2) ∧ l2 <:+ t ∧ attrsW A + l2.length ≤ t.length := by
        rw [ris_eq (n2.trans hs) 40 40 rfl]
        simp only [Option.bind_some]
        by_cases h40 : t.head? = some 40
        · simp only [h40, decide_true, if_true]
          obtain ⟨l, t1, b1, g1, g2, g3⟩ := rattrs_some S hl t.length t false 40 40 [] rfl (Nat.le_refl _) (n2.trans hs) (by have := suf_le (n2.trans hs); simp only [List.length_nil]; omega)
          rw [lim_of (t.length + 1) g1]
          simp only [Option.bind_some]
          obtain ⟨t2, b2, e1, e2, e3⟩ := reat_some b1 (g2.trans (n2.trans hs)) hl 41 41 rfl
          rw [e1]
          have := e2.length_le
          simp only [attrsW] at g3
          exact ⟨l, t2, b2, rfl, e2.trans g2, by omega⟩
        · simp only [h40, decide_false, Bool.false_eq_true, if_false]
          exact ⟨[], t, false, rfl, List.suffix_refl _, by simp [attrsW]⟩
      obtain ⟨A, l2, b2, a1, a2, a3⟩ := hat
      obtain ⟨t3, b3, w1, w2, w3⟩ := reat_some b2 (a2.trans (n2.trans hs)) hl 91 91 rfl
      have hs3 : t3 <:+ S := w2.trans (a2.trans (n2.trans hs))
      have l3 := w2.length_le
      have ls := suf_le hs3
      obtain ⟨l, t4, b4, k1, k2, k3, k4⟩ := rkids_some S hl (L : Int) R (fun s h => (hR s h).1) t3.length t3 b3 [] (Nat.le_refl _) hs3 (by simp only [List.length_nil]; omega)
      obtain ⟨t5, b5, x1, x2, x3⟩ := reat_some b4 (k2.trans hs3) hl 93 93 rfl
      have l5 := x2.length_le
      have l4 := k2.length_le
      simp only [nwts] at k3
      refine ⟨⟨w, [], [], A, l⟩, t5, b5, ⟨(x2.trans k2).trans (w2.trans (a2.trans n2)), ?_, ?_⟩, fun kr hk => ?_⟩
      · cases b5 with
        | true => exact .inl rfl
        | false =>
          right
          rcases x3 with ⟨_, x3, _⟩ | ⟨h, _, _⟩
          · omega
          · cases h
      · simp only [nwt, strsW, List.length_nil]
        cases b5 with
        | true =>
          simp only [if_true]
          cases b3 with
          | true =>
            obtain ⟨rfl, _, _⟩ := k4 rfl
            simp only [nwts, Bool.true_eq_false, and_false, if_false] at k3 ⊢
            omega
          | false =>
            have h91 : t3.length + 1 = l2.length := by
              rcases w3 with ⟨_, w3, _⟩ | ⟨h, _, _⟩
              · exact w3
              · cases h
            split at k3 <;> omega
        | false =>
          simp only [Bool.false_eq_true, if_false]
          rcases x3 with ⟨h, x3, _⟩ | ⟨h, _, _⟩
          · subst h
            simp only [Bool.false_eq_true, false_and, if_false] at k3
            cases b3 with
            | true =>
              obtain ⟨_, _, h⟩ := k4 rfl
              cases h
            | false =>
              have h91 : t3.length + 1 = l2.length := by
                rcases w3 with ⟨_, w3, _⟩ | ⟨h, _, _⟩
                · exact w3
                · cases h
              omega
          · cases h
      · obtain ⟨kr, rfl⟩ : ∃ j, kr = j + 1 + 1 := ⟨kr - 2, by omega⟩
        rw [diptychref2_Reader_node_x_k]
        simp only [g0, Bool.false_eq_true, if_false]
        rw [ris_eq hs 34 34 rfl]
        simp only [h34, decide_false, Option.bind_some, Bool.false_eq_true, if_false]
        rw [n1]
        simp only [Option.bind_some]
        rw [a1]
        simp only [Option.bind_some]
        rw [w1]
        simp only [Option.bind_some]
        have el : w64 (((L + 1 : Nat) : Int) - (1 : Int)) = (L : Int) := by rw [w64_eq (by omega)]; omega
        rw [el, diptychref2_Reader_nodes_x_k, lim_of (t3.length + 2) (k1 (diptychref2_Reader_node_x_k kr) fun s h => (hR s h).2 kr (by omega))]
        simp only [Option.bind_some]
        rw [x1]
        rfl

/-- A text that no well-formed node is written as. -/
theorem rparse_none (s : Str) (hs : s.length ≤ 1048576) (h : ¬ ∃ m, formB m = true ∧ nwt m ≤ 268435456 ∧ writeN m = s) : diptychref2_Parse s = some (zeroN, 2) := by
  obtain ⟨n, t, b, ⟨h1, _, h3⟩, h4⟩ := rnode_total s hs (s.length + 1) (by omega) s (List.suffix_refl _)
  have h5 : diptychref2_Reader_node_x ((s.length + 1 : Nat) : Int) (rs s s false) = some (n, rs s t b) := by
    unfold diptychref2_Reader_node_x
    exact lim_of (2 * (s.length + 1) + 1) h4
  have hw : nwt n ≤ 16777216 := by split at h3 <;> omega
  have hle := writeN_le n
  unfold diptychref2_Parse diptychref2_Reader_Node_x
  rw [rs_start, rs_S]
  have e : w64 ((s.length : Int) + 1) = ((s.length + 1 : Nat) : Int) := by rw [w64_eq (by omega)]; omega
  rw [e, h5]
  simp only [Option.bind_some, rs_B]
  cases b with
  | true => simp
  | false =>
    simp only [Bool.false_eq_true, if_false]
    split
    · rfl
    · rw [rwrite_eq n (by omega)]
      simp only [Option.bind_some]
      by_cases he : writeN n = s
      · have hf : formB n = false := by
          rw [Bool.eq_false_iff]
          intro hf
          exact h ⟨n, hf, by omega, he⟩
        rw [rformed_eq n (by omega), hf]
        simp [he]
      · simp [he]

end Go.Proofs.YtihndopckmdpbaaDoor
