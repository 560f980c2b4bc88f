/- WireApart, plainly. -/
import Derived.Test.YtclohbgnaopjfaaDoorWireInj
import Derived.Test.YtclohbgnaopjfaaDoorPrint
import Derived.Test.YtclohbgnaopjfaaDoorRSameT
import Derived.Test.YtclohbgnaopjfaaDoorLight
import Derived.Test.YtclohbgnaopjfaaDoorStepWts
namespace Go.Proofs.YtclohbgnaopjfaaDoor
set_option linter.unusedSimpArgs false
set_option linter.unusedVariables false
open Go

theorem itoa_eq (n : Int) (h : -9223372036854775808 ≤ n ∧ n ≤ 9223372036854775807) : strconv_Itoa n = some (Lib.itoa n) := chk_eq h _
/-- What is known of a step that is right. -/
structure StepK (s : step_Step) : Prop where
  r : StepR s
  f : -1 ≤ s.From ∧ s.From ≤ 1048576
  t : -1 ≤ s.To ∧ s.To ≤ 1048576
theorem checkx_form {l : List api_Node} (h : checkN (xN l) ≠ 2) : ∀ x ∈ l, formB x = true := by
  have hf : formB (xN l) = true := by
    unfold checkN at h
    cases hf : formB (xN l) with
    | true => rfl
    | false => rw [hf] at h; simp at h
  exact (form_nod hf rfl).2.2.2.2
theorem stepRight_eq (s : step_Step) (hw : nwts s.Nodes ≤ 268435400) (h1 : s.Name.length ≤ 1048576) (h2 : s.Value.length ≤ 1048576) : ∃ b, step_Right s = some b ∧ (b = true → StepK s) := by
  obtain ⟨k, f, t, l, n, v⟩ := s
  simp only at hw h1 h2
  obtain ⟨sp, hsp, hsp2⟩ : ∃ sp : Bool, ((if (decide (f ≥ (0 : Int))) = true then if (decide (f ≤ t)) = true then some (decide (t ≤ (1048576 : Int))) else some false else some false) : Option Bool) = some sp ∧ (sp = true → 0 ≤ f ∧ f ≤ t ∧ t ≤ 1048576) := by
    by_cases a : f ≥ 0
    · by_cases b : f ≤ t
      · exact ⟨decide (t ≤ 1048576), by simp [a, b], fun h => ⟨a, b, by simpa using h⟩⟩
      · exact ⟨false, by simp [a, b], fun h => by cases h⟩
    · exact ⟨false, by simp [a], fun h => by cases h⟩
  unfold step_Right
  simp only
  rw [hsp]
  simp only [Option.bind_some]
  have hxw := xN_wt l
  by_cases hk : k = 114
  · rw [if_pos (by simp [hk]), check_eq (xN l) (by omega)]
    simp only [Option.bind_some]
    cases sp with
    | false => exact ⟨false, by simp, fun h => by cases h⟩
    | true =>
      obtain ⟨s1, s2, s3⟩ := hsp2 rfl
      by_cases hc : checkN (xN l) = 2
      · exact ⟨false, by simp [hc], fun h => by cases h⟩
      · rw [if_pos rfl, if_pos (by simpa using hc), chk_eq (by omega)]
        refine ⟨_, rfl, fun h => ?_⟩
        have hn : n = [] ∧ v = [] := by simpa using h
        obtain ⟨rfl, rfl⟩ := hn
        subst hk
        exact ⟨.rep f t l (checkx_form hc), by simp only; omega, by simp only; omega⟩
  · rw [if_neg (by simpa using hk)]
    by_cases hk2 : k = 97
    · rw [if_pos (by simp [hk2])]
      by_cases a : f ≥ -1
      · by_cases b : f ≤ 1048576
        · by_cases c : t = 0
          · rw [if_pos (by simpa using a), if_pos (by simpa using b), if_pos (by simp [c]), name_eq n (by omega)]
            simp only [Option.bind_some]
            cases hn : isName n with
            | false => exact ⟨false, by simp, fun h => by cases h⟩
            | true =>
              rw [if_pos rfl, value_eq v (by omega)]
              simp only [Option.bind_some]
              cases hv : isValue v with
              | false => exact ⟨false, by simp, fun h => by cases h⟩
              | true =>
                rw [if_pos rfl]
                refine ⟨_, rfl, fun h => ?_⟩
                have hl : l = [] := by simpa using h
                subst hl hk2 c
                exact ⟨.att f n v hn, by simp only; omega, by simp only; omega⟩
          · exact ⟨false, by simp [a, b, c], fun h => by cases h⟩
        · exact ⟨false, by simp [a, b], fun h => by cases h⟩
      · exact ⟨false, by simp [a], fun h => by cases h⟩
    · rw [if_neg (by simpa using hk2)]
      have mk : ∀ k' : Int, k = k' → (k' = 109 ∨ k' = 117) → ∃ b, (if sp = true then (node_Name n).bind fun name_6 => if (name_6) = true then if ((l.length : Int) == (0 : Int)) = true then some (v == ([] : Str)) else some false else some false else some false : Option Bool) = some b ∧ (b = true → StepK ⟨k, f, t, l, n, v⟩) := by
        intro k' e hk'
        subst e
        cases sp with
        | false => exact ⟨false, by simp, fun h => by cases h⟩
        | true =>
          obtain ⟨s1, s2, s3⟩ := hsp2 rfl
          rw [if_pos rfl, name_eq n (by omega)]
          simp only [Option.bind_some]
          cases hn : isName n with
          | false => exact ⟨false, by simp, fun h => by cases h⟩
          | true =>
            rw [if_pos rfl]
            by_cases hl : l = []
            · subst hl
              rw [if_pos (by simp)]
              refine ⟨_, rfl, fun h => ?_⟩
              have hv : v = [] := by simpa using h
              subst hv
              exact ⟨.mrk k f t n hk' hn, by simp only; omega, by simp only; omega⟩
            · have : ((l.length : Int) == 0) = false := by
                rw [beq_eq_false_iff_ne]
                have := List.length_pos_iff.2 hl
                omega
              exact ⟨false, by simp [this], fun h => by cases h⟩
      by_cases hk3 : k = 109
      · rw [if_pos (by simp [hk3])]
        exact mk 109 hk3 (.inl rfl)
      · rw [if_neg (by simpa using hk3)]
        by_cases hk4 : k = 117
        · rw [if_pos (by simp [hk4])]
          exact mk 117 hk4 (.inr rfl)
        · rw [if_neg (by simpa using hk4)]
          exact ⟨false, rfl, fun h => by cases h⟩
theorem jn3 (a b c : Str) : Lib.join [a, b, c] [32] = a ++ 32 :: (b ++ 32 :: c) := by simp [Lib.join_cons, Lib.joinTail]
theorem jn4 (a b c d : Str) : Lib.join [a, b, c, d] [32] = a ++ 32 :: (b ++ 32 :: (c ++ 32 :: d)) := by simp [Lib.join_cons, Lib.joinTail]
theorem wwrite_eq {s : step_Step} (hs : StepK s) (hw : nwts s.Nodes ≤ 268435400) (h1 : s.Name.length ≤ 1048576) (h2 : s.Value.length ≤ 1048576) : wire_write s (writeL s.Nodes) = some (wtext s) ∧ (wtext s).length ≤ 1200000000 := by
  obtain ⟨hr, hf, ht⟩ := hs
  have i1 := itoa_len hf
  have i2 := itoa_len ht
  have hle := writeL_le s.Nodes fun k _ => writeN_le k
  have q1 := qt_le s.Value
  unfold wire_write
  rw [itoa_eq s.From (by omega), itoa_eq s.To (by omega)]
  simp only [Option.bind_some]
  cases hr with
  | rep f t l hl =>
    simp only at i1 i2 hle hw ⊢
    have e : wtext ⟨114, f, t, l, [], []⟩ = vRep ++ 32 :: (Lib.itoa f ++ 32 :: (Lib.itoa t ++ (if writeL l = [] then [] else 32 :: writeL l))) := rfl
    rw [e, if_pos (by decide)]
    by_cases hn : writeL l = []
    · rw [if_neg (by simp [hn]), sjoin_eq _ _ (by simp) (by rw [jn3]; simp; omega), if_pos hn, jn3]
      exact ⟨by simp, by simp; omega⟩
    · rw [if_pos (by simpa using hn), app_eq (by simp)]
      simp only [Option.bind_some, List.cons_append, List.nil_append]
      rw [sjoin_eq _ _ (by simp) (by rw [jn4]; simp; omega), if_neg hn, jn4]
      exact ⟨by simp, by simp; omega⟩
  | att f n v hn =>
    simp only at i1 i2 h1 h2 q1 ⊢
    have e : wtext ⟨97, f, 0, [], n, v⟩ = vAtt ++ 32 :: (Lib.itoa f ++ 32 :: (n ++ 32 :: qt v)) := rfl
    rw [e, if_neg (by decide), if_pos (by decide), quote_eq v (by omega)]
    simp only [Option.bind_some]
    rw [sjoin_eq _ _ (by simp) (by rw [jn4]; simp; omega), jn4]
    exact ⟨by simp, by simp; omega⟩
  | mrk k f t n hk hn =>
    simp only at i1 i2 h1 ⊢
    rcases hk with rfl | rfl
    · have e : wtext ⟨109, f, t, [], n, []⟩ = vMrk ++ 32 :: (Lib.itoa f ++ 32 :: (Lib.itoa t ++ 32 :: n)) := rfl
      have r : ∀ a b c d : Str, rd [a, b, c, d] 0 = some a := fun _ _ _ _ => rfl
      have w : ∀ a b c d x : Str, wr [a, b, c, d] 0 x = some [x, b, c, d] := fun _ _ _ _ _ => rfl
      rw [e, if_neg (by decide), if_neg (by decide), if_pos (by decide), r]
      simp only [Option.bind_some]
      rw [w]
      simp only [Option.bind_some]
      rw [sjoin_eq _ _ (by simp) (by rw [jn4]; simp; omega), jn4]
      exact ⟨by simp, by simp; omega⟩
    · have e : wtext ⟨117, f, t, [], n, []⟩ = vUnm ++ 32 :: (Lib.itoa f ++ 32 :: (Lib.itoa t ++ 32 :: n)) := rfl
      rw [e, if_neg (by decide), if_neg (by decide), if_neg (by decide), sjoin_eq _ _ (by simp) (by rw [jn4]; simp; omega), jn4]
      exact ⟨by simp, by simp; omega⟩
theorem wprint_eq (s : step_Step) (hw : nwts s.Nodes ≤ 268435400) (h1 : s.Name.length ≤ 1048576) (h2 : s.Value.length ≤ 1048576) : ∃ t e, wire_Print s = some (t, e) ∧ (e = 0 → StepR s ∧ t = wtext s ∧ t.length ≤ 1200000000) ∧ (e ≠ 0 → t = []) := by
  obtain ⟨b, hb, hk⟩ := stepRight_eq s hw h1 h2
  unfold wire_Print
  rw [hb]
  simp only [Option.bind_some]
  cases b with
  | false => exact ⟨[], 1, rfl, fun h => absurd h (by decide), fun _ => rfl⟩
  | true =>
    have k := hk rfl
    simp only [Bool.not_true, Bool.false_eq_true, if_false]
    rw [printAll_eq s.Nodes hw]
    by_cases hc : checkN (xN s.Nodes) = 0
    · rw [if_pos hc]
      simp only [Option.bind_some, bne_self_eq_false, Bool.false_eq_true, if_false]
      obtain ⟨w1, w2⟩ := wwrite_eq k hw h1 h2
      rw [w1]
      exact ⟨wtext s, 0, rfl, fun _ => ⟨k.r, rfl, w2⟩, fun h => (h rfl).elim⟩
    · rw [if_neg hc]
      simp only [Option.bind_some]
      rw [if_pos (by simpa using hc)]
      exact ⟨[], _, rfl, fun h => (hc h).elim, fun _ => rfl⟩
theorem shown12_eq : diptychlaw12_shown = some true := by
  have hr : StepK ⟨114, 1, 3, [⟨[112], [], [], [], []⟩], [], []⟩ := ⟨.rep 1 3 _ (by intro x hx; simp at hx; rw [hx]; decide +kernel), by simp only; omega, by simp only; omega⟩
  have w0 : nwts [⟨[112], [], [], [], []⟩] ≤ 268435400 := by decide +kernel
  obtain ⟨w1, _⟩ := wwrite_eq hr w0 (by simp) (by simp)
  have hs : step_Right ⟨114, 1, 3, [⟨[112], [], [], [], []⟩], [], []⟩ = some true := by
    have hc : checkN (xN [⟨[112], [], [], [], []⟩]) = 0 := by decide +kernel
    unfold step_Right
    simp only
    have := check_eq (xN [⟨[112], [], [], [], []⟩]) (by decide +kernel)
    rw [hc] at this
    rw [this]
    rfl
  have hp : codec_PrintAll [⟨[112], [], [], [], []⟩] = some (writeL [⟨[112], [], [], [], []⟩], 0) := by
    rw [printAll_eq _ w0, if_pos (by decide +kernel)]
  have ht : wtext ⟨114, 1, 3, [⟨[112], [], [], [], []⟩], [], []⟩ = [114, 101, 112, 108, 97, 99, 101, 32, 49, 32, 51, 32, 112, 91, 93] := by decide +kernel
  unfold diptychlaw12_shown wire_Print
  rw [hs]
  simp only [Option.bind_some, Bool.not_true, Bool.false_eq_true, if_false]
  rw [hp]
  simp only [Option.bind_some, bne_self_eq_false, Bool.false_eq_true, if_false]
  rw [w1, ht]
  rfl
theorem few_eq (a b : step_Step) (ha : nwts a.Nodes ≤ 268435400) (hb : nwts b.Nodes ≤ 268435400) : ∃ r, diptychlaw12_few [a, b] = some r := by
  unfold diptychlaw12_few
  rw [chk_eq (by simp)]
  have one : ∀ (s : step_Step) (suf : List step_Step) (i : Int), nwts s.Nodes ≤ 268435400 → (∃ r, diptychlaw12_few_l0 suf (i + 1) = some r) → ∃ r, diptychlaw12_few_l0 (s :: suf) i = some r := by
    intro s suf i hw ⟨r, hr⟩
    have hnw : nwt (⟨[], [], [], [], s.Nodes⟩ : api_Node) ≤ 1099511627776 := by
      simp only [nwt, strsW, attrsW, List.length_nil]; omega
    rw [diptychlaw12_few_l0, light_eq _ hnw]
    simp only [Option.bind_some]
    split
    · exact ⟨_, rfl⟩
    · split
      · exact ⟨_, rfl⟩
      · split
        · exact ⟨_, rfl⟩
        · exact ⟨r, hr⟩
  obtain ⟨r, hr⟩ := one a [b] 0 ha (one b [] _ hb ⟨_, rfl⟩)
  rw [hr]
  cases r <;> exact ⟨_, rfl⟩
theorem printAll2 {a b : step_Step} {s t : Str} (h1 : wire_Print a = some (s, 0)) (h2 : wire_Print b = some (t, 0)) (hs : s.length ≤ 1200000000) (ht : t.length ≤ 1200000000) : wire_PrintAll [a, b] = some (s ++ [10] ++ t ++ [10], 0) := by
  unfold wire_PrintAll
  rw [chk_eq (by simp), wire_PrintAll_l0, h1]
  simp only [Option.bind_some, bne_self_eq_false, Bool.false_eq_true, if_false]
  rw [chk_eq (by simp; omega), wstr_eq _ _ (by simp; omega)]
  simp only [Option.bind_some, List.nil_append]
  rw [wire_PrintAll_l0, h2]
  simp only [Option.bind_some, bne_self_eq_false, Bool.false_eq_true, if_false]
  rw [chk_eq (by simp; omega), wstr_eq _ _ (by simp; omega)]
  simp only [Option.bind_some]
  rw [wire_PrintAll_l0]
  simp only [Option.bind_some]
  unfold strings_Builder_String_x
  rw [chk_eq (by simp; omega)]
  simp
theorem sameStep12 (a b : step_Step) (ha : nwts a.Nodes ≤ 268435400) : ∃ r, diptychlaw12_sameStep a ⟨b.Kind, b.From, b.To, b.Nodes, b.Name, b.Value⟩ = some r ∧ (r = true ↔ a = b) := by
  obtain ⟨k, f, t, l, n, v⟩ := a
  obtain ⟨k', f', t', l', n', v'⟩ := b
  simp only at ha
  obtain ⟨q, q1, q2⟩ := rsameAll_tells l l' (by omega)
  unfold diptychlaw12_sameStep
  simp only
  by_cases e1 : k = k'
  · by_cases e2 : f = f'
    · by_cases e3 : t = t'
      · rw [if_pos (by simp [e1]), if_pos (by simp [e2]), if_pos (by simp [e3]), q1]
        simp only [Option.bind_some]
        cases q with
        | false =>
          refine ⟨false, rfl, ?_⟩
          have hl : ¬ l = l' := fun e => by have := q2.2 e; cases this
          simp [hl]
        | true =>
          have hl := q2.1 rfl
          by_cases e4 : n = n'
          · refine ⟨v == v', by simp [e4], ?_⟩
            simp [e1, e2, e3, e4, hl]
          · refine ⟨false, by simp [e4], ?_⟩
            simp [e4]
      · refine ⟨false, by simp [e1, e2, e3], by simp [e3]⟩
    · refine ⟨false, by simp [e1, e2], by simp [e2]⟩
  · refine ⟨false, by simp [e1], by simp [e1]⟩
theorem WireApart_true (a b : step_Step) (ha : nwts a.Nodes ≤ 268435400) (hb : nwts b.Nodes ≤ 268435400) (a1 : a.Name.length ≤ 1048576) (a2 : a.Value.length ≤ 1048576) (b1 : b.Name.length ≤ 1048576) (b2 : b.Value.length ≤ 1048576) : diptychlaw12_WireApart a b = some true := by
  unfold diptychlaw12_WireApart
  rw [shown12_eq]
  simp only [Option.bind_some]
  obtain ⟨r, hr⟩ := few_eq a b ha hb
  rw [hr]
  simp only [Option.bind_some, Bool.not_true, Bool.false_eq_true, if_false]
  cases r with
  | false => rfl
  | true =>
    obtain ⟨s, e, h1, h2, h3⟩ := wprint_eq a ha a1 a2
    obtain ⟨t, f, h4, h5, h6⟩ := wprint_eq b hb b1 b2
    simp only [Bool.not_true, Bool.false_eq_true, if_false]
    rw [h1]
    simp only [Option.bind_some]
    rw [h4]
    simp only [Option.bind_some]
    by_cases he : e = 0
    · subst he
      obtain ⟨ra, rfl, la⟩ := h2 rfl
      by_cases hf : f = 0
      · subst hf
        obtain ⟨rb, rfl, lb⟩ := h5 rfl
        obtain ⟨q, q1, q2⟩ := sameStep12 a b ha
        have has : diptychlaw12_asStep b = some ⟨b.Kind, b.From, b.To, b.Nodes, b.Name, b.Value⟩ := rfl
        simp only [bne_self_eq_false, Bool.false_eq_true, if_false]
        rw [printAll2 h1 h4 la lb]
        simp only [Option.bind_some]
        rw [has]
        simp only [Option.bind_some]
        rw [q1]
        simp only [Option.bind_some]
        have hq : ((wtext a == wtext b) == q) = true := by
          cases q with
          | true => rw [q2.1 rfl]; simp
          | false =>
            have : ¬ wtext a = wtext b := fun e => by
              have := q2.2 (wtext_inj ra rb e)
              cases this
            simp [this]
        rw [hq]
        simp only [beq_self_eq_true, if_true]
        rw [if_pos (by decide), chk_eq (by simp; omega), chk_eq (by simp; omega), chk_eq (by simp; omega)]
      · have ht := h6 hf
        subst ht
        rw [if_neg (by simp), if_pos (by simpa using hf)]
        simp
    · have hs := h3 he
      subst hs
      rw [if_pos (by simpa using he)]
      by_cases hf : f = 0
      · simp [hf]
      · simp [h6 hf]
theorem WireApart_card (a b : step_Step) (h : pvW a.pv + (pvW b.pv + 0) ≤ 1048576) : diptychlaw12_WireApart a b = some true := by
  obtain ⟨a1, a2, a3⟩ := step_w (s := a) (k := 1048576) (by omega)
  obtain ⟨b1, b2, b3⟩ := step_w (s := b) (k := 1048576) (by omega)
  exact WireApart_true a b (by omega) (by omega) a2 a3 b2 b3

end Go.Proofs.YtclohbgnaopjfaaDoor
