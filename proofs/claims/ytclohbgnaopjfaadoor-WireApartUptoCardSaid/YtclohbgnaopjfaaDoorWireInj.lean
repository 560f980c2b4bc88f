/- Right steps that are written alike are the same. -/
import Derived.Test.YtclohbgnaopjfaaDoorWriteInj
import Derived.Test.YtclohbgnaopjfaaDoorDigits
namespace Go.Proofs.YtclohbgnaopjfaaDoor
set_option linter.unusedSimpArgs false
set_option linter.unusedVariables false
open Go

abbrev vRep : Str := [114, 101, 112, 108, 97, 99, 101]
abbrev vAtt : Str := [97, 116, 116, 114]
abbrev vMrk : Str := [109, 97, 114, 107]
abbrev vUnm : Str := [117, 110, 109, 97, 114, 107]
def verbW (k : Int) : Str := if k = 114 then vRep else if k = 97 then vAtt else if k = 109 then vMrk else vUnm
/-- The third word of a step, and what is behind it. -/
def thirdW (s : step_Step) : Str := if s.Kind = 97 then s.Name else Lib.itoa s.To
def restW (s : step_Step) : Str :=
  if s.Kind = 114 then (if writeL s.Nodes = [] then [] else 32 :: writeL s.Nodes)
  else if s.Kind = 97 then 32 :: qt s.Value
  else 32 :: s.Name
/-- A step as it is written. -/
def wtext (s : step_Step) : Str := verbW s.Kind ++ 32 :: (Lib.itoa s.From ++ 32 :: (thirdW s ++ restW s))
/-- What a right step is. -/
inductive StepR : step_Step → Prop
  | rep (f t : Int) (l : List api_Node) (h : ∀ x ∈ l, formB x = true) : StepR ⟨114, f, t, l, [], []⟩
  | att (f : Int) (n v : Str) (h : isName n = true) : StepR ⟨97, f, 0, [], n, v⟩
  | mrk (k f t : Int) (n : Str) (hk : k = 109 ∨ k = 117) (h : isName n = true) : StepR ⟨k, f, t, [], n, []⟩
theorem verb_no (k : Int) : ∀ x ∈ verbW k, (x != 32) = true := by
  unfold verbW
  split
  · decide
  · split
    · decide
    · split <;> decide
theorem itoa_no32 (n : Int) : ∀ x ∈ Lib.itoa n, (x != 32) = true := fun x hx => by
  have := itoa_no hx
  simp only [bne_iff_ne, ne_eq]
  rintro rfl
  revert this
  decide
theorem name_no32 {n : Str} (h : isName n = true) : ∀ x ∈ n, (x != 32) = true := fun x hx => by
  simpa using letter_ne (c := 32) (name_all h x hx) (by decide)
theorem mk_not {k c : Int} (hk : k = 109 ∨ k = 117) (h1 : (109 : Int) ≠ c) (h2 : (117 : Int) ≠ c) : ¬ k = c := by
  rcases hk with rfl | rfl
  · exact h1
  · exact h2
theorem third_no {s : step_Step} (h : StepR s) : ∀ x ∈ thirdW s, (x != 32) = true := by
  cases h with
  | rep f t l h => exact itoa_no32 t
  | att f n v h => exact name_no32 h
  | mrk k f t n hk h =>
    have : thirdW ⟨k, f, t, [], n, []⟩ = Lib.itoa t := by
      unfold thirdW
      rw [if_neg (mk_not hk (by decide) (by decide))]
    rw [this]
    exact itoa_no32 t
theorem rest_head (s : step_Step) : ∀ x, (restW s).head? = some x → (x != 32) = false := by
  intro x hx
  unfold restW at hx
  split at hx
  · split at hx
    · cases hx
    · simp at hx; rw [← hx]; rfl
  · split at hx
    · simp at hx; rw [← hx]; rfl
    · simp at hx; rw [← hx]; rfl
theorem head32 (t : Str) : ∀ x, ((32 :: t : Str)).head? = some x → (x != 32) = false := fun x hx => by
  simp at hx; rw [← hx]; rfl
theorem wtext_inj {a b : step_Step} (ha : StepR a) (hb : StepR b) (h : wtext a = wtext b) : a = b := by
  unfold wtext at h
  obtain ⟨h1, h2⟩ := span_inj (fun x => x != 32) _ _ _ _ (verb_no _) (verb_no _) (head32 _) (head32 _) h
  simp only [List.cons.injEq, true_and] at h2
  obtain ⟨h3, h4⟩ := span_inj (fun x => x != 32) _ _ _ _ (itoa_no32 _) (itoa_no32 _) (head32 _) (head32 _) h2
  simp only [List.cons.injEq, true_and] at h4
  obtain ⟨h5, h6⟩ := span_inj (fun x => x != 32) _ _ _ _ (third_no ha) (third_no hb) (rest_head _) (rest_head _) h4
  have hf := itoa_inj h3
  cases ha with
  | rep f t l hl =>
    cases hb with
    | rep f' t' l' hl' =>
      have ht : t = t' := itoa_inj h5
      have hll : writeL l = writeL l' := by
        have e : ∀ (f t : Int) (l : List api_Node), restW ⟨114, f, t, l, [], []⟩ = if writeL l = [] then [] else 32 :: writeL l := fun _ _ _ => rfl
        rw [e, e] at h6
        by_cases e1 : writeL l = []
        · by_cases e2 : writeL l' = []
          · rw [e1, e2]
          · rw [if_pos e1, if_neg e2] at h6; cases h6
        · by_cases e2 : writeL l' = []
          · rw [if_neg e1, if_pos e2] at h6; cases h6
          · rw [if_neg e1, if_neg e2] at h6
            simpa using h6
      have hl3 := writeL_inj hl hl' hll
      simp only at hf
      subst hf ht hl3
      rfl
    | att f' n v h => exact absurd h1 (show verbW 114 ≠ verbW 97 by decide)
    | mrk k f' t' n hk h =>
      rcases hk with rfl | rfl
      · exact absurd h1 (show verbW 114 ≠ verbW 109 by decide)
      · exact absurd h1 (show verbW 114 ≠ verbW 117 by decide)
  | att f n v hn =>
    cases hb with
    | rep f' t' l' hl' => exact absurd h1 (show verbW 97 ≠ verbW 114 by decide)
    | att f' n' v' hn' =>
      have h5' : n = n' := h5
      have h6' : (32 :: qt v : Str) = 32 :: qt v' := h6
      simp only [List.cons.injEq, true_and] at h6'
      have hv : v = v' := (qt_inj (r := []) (s := []) (by rw [h6'])).1
      simp only at hf
      subst hf h5' hv
      rfl
    | mrk k f' t' n' hk h =>
      rcases hk with rfl | rfl
      · exact absurd h1 (show verbW 97 ≠ verbW 109 by decide)
      · exact absurd h1 (show verbW 97 ≠ verbW 117 by decide)
  | mrk k f t n hk hn =>
    cases hb with
    | rep f' t' l' hl' =>
      rcases hk with rfl | rfl
      · exact absurd h1 (show verbW 109 ≠ verbW 114 by decide)
      · exact absurd h1 (show verbW 117 ≠ verbW 114 by decide)
    | att f' n' v' hn' =>
      rcases hk with rfl | rfl
      · exact absurd h1 (show verbW 109 ≠ verbW 97 by decide)
      · exact absurd h1 (show verbW 117 ≠ verbW 97 by decide)
    | mrk k' f' t' n' hk' hn' =>
      have hkk : k = k' := by
        rcases hk with rfl | rfl <;> rcases hk' with rfl | rfl
        · rfl
        · exact absurd h1 (show verbW 109 ≠ verbW 117 by decide)
        · exact absurd h1 (show verbW 117 ≠ verbW 109 by decide)
        · rfl
      subst hkk
      have th : ∀ (f t : Int) (n : Str), thirdW ⟨k, f, t, [], n, []⟩ = Lib.itoa t := fun f t n => by
        unfold thirdW
        rw [if_neg (mk_not hk (by decide) (by decide))]
      have rs : ∀ (f t : Int) (n : Str), restW ⟨k, f, t, [], n, []⟩ = 32 :: n := fun f t n => by
        unfold restW
        rw [if_neg (mk_not hk (by decide) (by decide)), if_neg (mk_not hk (by decide) (by decide))]
      rw [th, th] at h5
      rw [rs, rs] at h6
      have ht := itoa_inj h5
      simp only [List.cons.injEq, true_and] at h6
      simp only at hf
      subst hf ht h6
      rfl

end Go.Proofs.YtclohbgnaopjfaaDoor
