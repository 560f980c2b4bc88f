/- CodecDeep, plainly. -/
import Derived.Test.YtihndopckmdpbaaDoorPrint
import Derived.Test.YtihndopckmdpbaaDoorReadAll
import Derived.Test.YtihndopckmdpbaaDoorSame
import Derived.Test.YtihndopckmdpbaaDoorMade
namespace Go.Proofs.YtihndopckmdpbaaDoor
set_option linter.unusedSimpArgs false
set_option linter.unusedVariables false
open Go

def nest (m : api_Node) : Nat → api_Node
  | 0 => m
  | k + 1 => ({ Kind := ([112] : Str), Text := ([] : Str), Marks := [], Attrs := [], Kids := [nest m k] } : api_Node)
def opens : Nat → Str
  | 0 => []
  | k + 1 => opens k ++ [112, 91]
def shuts : Nat → Str
  | 0 => []
  | k + 1 => shuts k ++ [93]
theorem opens_succ (k : Nat) : opens (k + 1) = 112 :: 91 :: opens k := by
  induction k with
  | zero => rfl
  | succ k ih =>
    show opens (k + 1) ++ [112, 91] = 112 :: 91 :: (opens k ++ [112, 91])
    rw [ih]
    rfl
theorem shuts_len (k : Nat) : (shuts k).length = k := by
  induction k with
  | zero => rfl
  | succ k ih => simp [shuts, ih]
theorem opens_len (k : Nat) : (opens k).length = 2 * k := by
  induction k with
  | zero => rfl
  | succ k ih => simp [opens, ih]; omega
theorem isT_nest (m : api_Node) (k : Nat) : isT (nest m (k + 1)) = false := rfl
theorem write_nest (m : api_Node) (k : Nat) : writeN (nest m k) = opens k ++ (writeN m ++ shuts k) := by
  induction k with
  | zero => simp [nest, opens, shuts]
  | succ k ih =>
    have h1 : hd (nest m (k + 1)) = [112] := rfl
    have h2 : (nest m (k + 1)).Kids = [nest m k] := rfl
    rw [writeN_eq, isT_nest, if_neg (by simp), h1, h2]
    simp only [writeL, List.append_nil, ih, opens_succ, shuts]
    simp
theorem form_nest (m : api_Node) (k : Nat) : formB (nest m k) = formB m := by
  induction k with
  | zero => rfl
  | succ k ih =>
    have h1 : isName ([112] : Str) = true := by decide +kernel
    have h2 : riseB [] = true := rfl
    rw [formB_eq, isT_nest]
    simp only [nest, Bool.false_eq_true, if_false]
    rw [formBs_cons, formBs_nil, ih]
    simp [h1, h2]
theorem dep_nest (m : api_Node) (k : Nat) : depN (nest m k) = depN m + k := by
  induction k with
  | zero => rfl
  | succ k ih =>
    rw [depN_eq, isT_nest]
    simp only [nest, depNs, ih, Bool.false_eq_true, if_false]
    omega
theorem size_nest (m : api_Node) (k : Nat) : nsize (nest m k) = nsize m + 2 * k := by
  induction k with
  | zero => rfl
  | succ k ih =>
    rw [nsize_eq, isT_nest]
    simp only [nest, nsizes, ih, Bool.false_eq_true, if_false]
    omega
theorem wt_nest (m : api_Node) (k : Nat) : nwt (nest m k) = nwt m + 3 * k := by
  induction k with
  | zero => rfl
  | succ k ih =>
    simp only [nest, nwt, nwts, strsW, attrsW, ih, List.length_cons, List.length_nil]
    omega

theorem deep_l1 (m : api_Node) (p : Nat) (hp : p < 60) : ∀ (f i k : Nat), i + f = p + 1 → f < k → diptychlaw2_CodecDeep_l1 (p : Int) k (opens i) (i : Int) (nest m i) = some (opens (p + 1), nest m (p + 1))
  | 0, i, k, h, hk => by
    obtain ⟨k, rfl⟩ : ∃ j, k = j + 1 := ⟨k - 1, by omega⟩
    have : i = p + 1 := by omega
    subst this
    rw [diptychlaw2_CodecDeep_l1, w64_eq (by omega)]
    have g : decide (((p + 1 : Nat) : Int) < (1 : Int) + (p : Int)) = false := by simp; omega
    simp only [g, Bool.false_eq_true, if_false]
  | f + 1, i, k, h, hk => by
    obtain ⟨k, rfl⟩ : ∃ j, k = j + 1 := ⟨k - 1, by omega⟩
    have ol := opens_len i
    have ih := deep_l1 m p hp f (i + 1) k (by omega) (by omega)
    rw [diptychlaw2_CodecDeep_l1, w64_eq (by omega)]
    have g : decide (((i : Nat) : Int) < (1 : Int) + (p : Int)) = true := by simp; omega
    simp only [g, if_true]
    rw [chk_eq (by simp only [List.length_cons, List.length_nil]; omega), w64_eq (by omega)]
    have e : (i : Int) + 1 = ((i + 1 : Nat) : Int) := by omega
    rw [e]
    exact ih
theorem deep_l3 (s : Str) (hs : s.length ≤ 1000) (p : Nat) (hp : p < 60) : ∀ (f i k : Nat), i + f = p + 1 → f < k → diptychlaw2_CodecDeep_l3 (p : Int) k (s ++ shuts i) (i : Int) = some (s ++ shuts (p + 1))
  | 0, i, k, h, hk => by
    obtain ⟨k, rfl⟩ : ∃ j, k = j + 1 := ⟨k - 1, by omega⟩
    have : i = p + 1 := by omega
    subst this
    rw [diptychlaw2_CodecDeep_l3, w64_eq (by omega)]
    have g : decide (((p + 1 : Nat) : Int) < (1 : Int) + (p : Int)) = false := by simp; omega
    simp only [g, Bool.false_eq_true, if_false]
  | f + 1, i, k, h, hk => by
    obtain ⟨k, rfl⟩ : ∃ j, k = j + 1 := ⟨k - 1, by omega⟩
    have ol := shuts_len i
    have ih := deep_l3 s hs p hp f (i + 1) k (by omega) (by omega)
    rw [diptychlaw2_CodecDeep_l3, w64_eq (by omega)]
    have g : decide (((i : Nat) : Int) < (1 : Int) + (p : Int)) = true := by simp; omega
    simp only [g, if_true]
    rw [chk_eq (by simp only [List.length_append, List.length_cons, List.length_nil]; omega), w64_eq (by omega)]
    have e : (i : Int) + 1 = ((i + 1 : Nat) : Int) := by omega
    rw [e, List.append_assoc]
    exact ih

/-- A well-formed node that is written without a quote is of letters and brackets alone. -/
theorem no_quote (n : api_Node) : formB n = true → (34 : UInt8) ∉ writeN n → ∀ c ∈ writeN n, letter c = true ∨ c = 91 ∨ c = 93 := by
  induction n using api_Node.ind with
  | h n ih =>
    intro hf hq
    rw [writeN_eq] at hq ⊢
    cases ht : isT n with
    | true =>
      rw [if_pos ht] at hq
      exact (hq (by simp [qt])).elim
    | false =>
      rw [if_neg (by simp [ht])] at hq ⊢
      obtain ⟨_, h1, _, h3⟩ := formed_node hf ht
      have hal := isName_letters h1
      have ha : n.Attrs = [] := by
        cases hA : n.Attrs with
        | nil => rfl
        | cons x l =>
          exfalso
          apply hq
          have e : hd n = n.Kind ++ 40 :: (Lib.join ((x :: l).map atx) [32] ++ [41]) := by
            unfold hd
            simp [ht, hA]
          rw [e, List.map_cons, Lib.join_cons]
          simp [atx, qt]
      have e : hd n = n.Kind := by
        unfold hd
        simp [ht, ha]
      rw [e] at hq ⊢
      have hk : ∀ l : List api_Node, (∀ k ∈ l, k ∈ n.Kids) → (34 : UInt8) ∉ writeL l → ∀ c ∈ writeL l, letter c = true ∨ c = 91 ∨ c = 93 := by
        intro l
        induction l with
        | nil => intro _ _ c hc; cases hc
        | cons k l ihl =>
          intro hl h34 c hc
          simp only [writeL, List.mem_append, not_or] at h34 hc
          rcases hc with hc | hc
          · exact ih k (hl k (by simp)) (h3 k (hl k (by simp))) h34.1 c hc
          · exact ihl (fun x hx => hl x (by simp [hx])) h34.2 c hc
      intro c hc
      simp only [List.mem_append, List.mem_cons, List.mem_singleton, List.not_mem_nil, or_false, not_or] at hc hq
      rcases hc with hc | hc | hc | hc
      · exact .inl (List.all_eq_true.1 hal c hc)
      · exact .inr (.inl hc)
      · exact hk n.Kids (fun _ h => h) hq.2.2.1 c hc
      · exact .inr (.inr hc)

theorem CodecDeep_true (deep : Int) (wrong : Bool) (hd : -9223372036854775808 ≤ deep ∧ deep ≤ 9223372036854775807) : diptychlaw2_CodecDeep deep wrong = some true := by
  obtain ⟨p, hp, hp2⟩ := pick_eq deep 60 hd (by omega)
  have hp3 : p < 60 := by omega
  unfold diptychlaw2_CodecDeep
  rw [shown2_eq]
  simp only [Option.bind_some, Bool.not_true, Bool.false_eq_true, if_false]
  rw [hp]
  simp only [Option.bind_some]
  have e1 : ∀ m, (lim fun k => diptychlaw2_CodecDeep_l1 (p : Int) k ([] : Str) (0 : Int) m) = some (opens (p + 1), nest m (p + 1)) := fun m =>
    lim_of (p + 2) fun k hk => deep_l1 m p hp3 (p + 1) 0 k (by omega) (by omega)
  have e3 : ∀ s : Str, s.length ≤ 1000 → (lim fun k => diptychlaw2_CodecDeep_l3 (p : Int) k s (0 : Int)) = some (s ++ shuts (p + 1)) := fun s hs =>
    lim_of (p + 2) fun k hk => by
      have := deep_l3 s hs p hp3 (p + 1) 0 k (by omega) (by omega)
      simpa [shuts] using this
  have ol := opens_len (p + 1)
  have sl' := shuts_len (p + 1)
  cases wrong with
  | true =>
    simp only [if_true, Option.bind_some]
    rw [e1]
    simp only [Option.bind_some]
    rw [chk_eq (by simp only [List.length_cons, List.length_nil]; omega)]
    simp only [Option.bind_some]
    rw [e3 _ (by simp only [List.length_append, List.length_cons, List.length_nil]; omega)]
    simp only [Option.bind_some]
    have m1 : ∀ m : api_Node, m.Kind = ([80] : Str) → formB m = false := by
      intro m hm
      have h1 : isName ([80] : Str) = false := by decide +kernel
      have h2 : isT m = false := by unfold isT; rw [hm]; rfl
      rw [formB_eq, h2, hm, h1]
      simp
    have hf := form_nest ({ Kind := ([80] : Str), Text := ([120] : Str), Marks := [], Attrs := [], Kids := [] } : api_Node) (p + 1)
    rw [m1 ({ Kind := ([80] : Str), Text := ([120] : Str), Marks := [], Attrs := [], Kids := [] } : api_Node) rfl] at hf
    have hw := wt_nest ({ Kind := ([80] : Str), Text := ([120] : Str), Marks := [], Attrs := [], Kids := [] } : api_Node) (p + 1)
    have hw0 : nwt ({ Kind := ([80] : Str), Text := ([120] : Str), Marks := [], Attrs := [], Kids := [] } : api_Node) = 4 := rfl
    have hc : checkN (nest ({ Kind := ([80] : Str), Text := ([120] : Str), Marks := [], Attrs := [], Kids := [] } : api_Node) (p + 1)) = 2 := by unfold checkN; rw [if_pos hf]
    have hP := print_eq (nest ({ Kind := ([80] : Str), Text := ([120] : Str), Marks := [], Attrs := [], Kids := [] } : api_Node) (p + 1)) (by omega)
    rw [hc] at hP
    rw [hP]
    simp only [Option.bind_some]
    have hN := parse_none (opens (p + 1) ++ ([80, 91, 93] : Str) ++ shuts (p + 1)) (by simp only [List.length_append, List.length_cons, List.length_nil]; omega) (by
      rintro ⟨m, h1, _, h3⟩
      have hin : ∀ (c : UInt8), c ∈ opens (p + 1) ++ ([80, 91, 93] : Str) ++ shuts (p + 1) → c = 112 ∨ c = 91 ∨ c = 80 ∨ c = 93 := by
        have ho : ∀ k, ∀ c ∈ opens k, c = 112 ∨ c = 91 := by
          intro k
          induction k with
          | zero => intro c hc; cases hc
          | succ k ih =>
            intro c hc
            simp only [opens, List.mem_append, List.mem_cons, List.not_mem_nil, or_false] at hc
            rcases hc with hc | hc | hc
            · exact ih c hc
            · exact .inl hc
            · exact .inr hc
        have hs : ∀ k, ∀ c ∈ shuts k, c = 93 := by
          intro k
          induction k with
          | zero => intro c hc; cases hc
          | succ k ih =>
            intro c hc
            simp only [shuts, List.mem_append, List.mem_cons, List.not_mem_nil, or_false] at hc
            rcases hc with hc | hc
            · exact ih c hc
            · exact hc
        intro c hc
        simp only [List.mem_append, List.mem_cons, List.not_mem_nil, or_false] at hc
        rcases hc with (hc | hc | hc | hc) | hc
        · rcases ho _ c hc with h | h
          · exact .inl h
          · exact .inr (.inl h)
        · exact .inr (.inr (.inl hc))
        · exact .inr (.inl hc)
        · exact .inr (.inr (.inr hc))
        · exact .inr (.inr (.inr (hs _ c hc)))
      have h34 : (34 : UInt8) ∉ writeN m := by
        rw [h3]
        intro h
        have := hin 34 h
        revert this; decide
      have h80 := no_quote m h1 h34 80 (by rw [h3]; simp)
      revert h80; decide)
    rw [hN]
    simp
  | false =>
    simp only [Bool.false_eq_true, if_false, Option.bind_some]
    rw [e1]
    simp only [Option.bind_some]
    rw [chk_eq (by simp only [List.length_cons, List.length_nil]; omega)]
    simp only [Option.bind_some]
    rw [e3 _ (by simp only [List.length_append, List.length_cons, List.length_nil]; omega)]
    simp only [Option.bind_some]
    obtain ⟨m, hm⟩ : ∃ m, m = ({ Kind := ([116, 101, 120, 116] : Str), Text := ([120] : Str), Marks := [], Attrs := [], Kids := [] } : api_Node) := ⟨_, rfl⟩
    rw [← hm]
    have f0 : formB m = true := by subst hm; decide +kernel
    have d0 : depN m = 0 := by subst hm; decide +kernel
    have s0 : nsize m = 1 := by subst hm; decide +kernel
    have w0 : nwt m = 7 := by subst hm; decide +kernel
    have wr0 : writeN m = [34, 120, 34] := by subst hm; decide +kernel
    have hf := form_nest m (p + 1)
    have hdp := dep_nest m (p + 1)
    have hsz := size_nest m (p + 1)
    have hw := wt_nest m (p + 1)
    have hwr := write_nest m (p + 1)
    rw [f0] at hf
    rw [wr0] at hwr
    have es : opens (p + 1) ++ ([34, 120, 34] : Str) ++ shuts (p + 1) = writeN (nest m (p + 1)) := by rw [hwr]; simp
    rw [es]
    have hc : checkN (nest m (p + 1)) = if 40 < p + 1 then 4 else 0 := by
      unfold checkN
      rw [hf, hdp, hsz, d0, s0, if_neg (by simp), Nat.zero_add]
      split
      · rfl
      · rw [if_neg (by omega)]
    have hP := print_eq (nest m (p + 1)) (by omega)
    have hR := parse_write (nest m (p + 1)) hf (by omega)
    rw [hc] at hP hR
    rw [hP, hR, w64_eq (by omega)]
    simp only [Option.bind_some]
    by_cases h40 : 40 < p + 1
    · have g : decide ((1 : Int) + (p : Int) > 40) = true := by simp; omega
      simp [h40, g]
    · have g : decide ((1 : Int) + (p : Int) > 40) = false := by simp; omega
      have hS := nsame_eq (nest m (p + 1)) (by omega)
      have hD := depth_eq (nest m (p + 1)) (by omega)
      rw [hdp, d0] at hD
      simp only [h40, if_false, g, Bool.false_eq_true, if_true, beq_self_eq_true, hS, hD, Option.bind_some]
      simp; omega

end Go.Proofs.YtihndopckmdpbaaDoor
