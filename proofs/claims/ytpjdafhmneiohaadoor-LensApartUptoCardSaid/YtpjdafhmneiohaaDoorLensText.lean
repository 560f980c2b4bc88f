/- How a right lens is written: the program's answer. -/
import Derived.Test.YtpjdafhmneiohaaDoorLensRight
namespace Go.Proofs.YtpjdafhmneiohaaDoor
set_option linter.unusedSimpArgs false
set_option linter.unusedVariables false
open Go

/-! ### Verbs -/
abbrev lVerbs : List Str := [[114, 101, 110, 97, 109, 101], [109, 97, 114, 107], [97, 116, 116, 114], [97, 100, 100], [100, 114, 111, 112], [116, 97, 98, 108, 101], [119, 114, 97, 112], [117, 110, 119, 114, 97, 112], [104, 101, 97, 100], [115, 112, 114, 101, 97, 100]]
def opN (s : Str) : Int := if s = [97, 116, 116, 114] then 110 else if s = [] then 0 else ((s.getD 0 0).toNat : Int)
theorem opOf_eq (s : Str) : lens_opOf s = some (opN s) := by
  unfold lens_opOf opN
  by_cases h1 : s = [97, 116, 116, 114]
  · simp [h1]
  · by_cases h2 : s = []
    · simp [h2]
    · have hl := List.length_pos_iff.2 h2
      rw [if_neg (by simpa using h1), if_neg (by simpa using h2), chk_eq (by omega), if_neg h1, if_neg h2]
      rfl
def verbS (op : Int) : Str := ((lVerbs.find? fun s => decide (opN s = op)).getD [])
theorem verb_l0 (op : Int) : ∀ (suf pre : List Str) (k : Nat), lVerbs = pre ++ suf → suf.length < k → lens_verb_l0 op k (pre.length : Int) = some (match suf.find? fun s => decide (opN s = op) with | some s => .inl s | none => .inr ())
  | suf, pre, 0, _, hk => by omega
  | [], pre, k + 1, hp, hk => by
    have hl := congrArg List.length hp
    simp only [List.length_append, List.length_nil, Nat.add_zero] at hl
    have g : decide ((pre.length : Int) < (lVerbs.length : Int)) = false := by rw [hl]; simp
    rw [lens_verb_l0, g]
    rfl
  | s :: suf, pre, k + 1, hp, hk => by
    have h10 : lVerbs.length = 10 := rfl
    have hl := congrArg List.length hp
    rw [h10, List.length_append, List.length_cons] at hl
    simp only [List.length_cons] at hk
    have g : decide ((pre.length : Int) < (lVerbs.length : Int)) = true := by rw [h10]; simp; omega
    have r : rd lVerbs (pre.length : Int) = some s := by rw [hp]; exact rd_mid _ _ _
    rw [lens_verb_l0, g]
    simp only [if_true]
    rw [r]
    simp only [Option.bind_some, opOf_eq]
    by_cases h : opN s = op
    · simp [h]
    · have ih := verb_l0 op suf (pre ++ [s]) k (by simp [hp]) (by omega)
      have e : w64 ((pre.length : Int) + 1) = ((pre ++ [s]).length : Int) := by rw [w64_eq (by omega)]; simp
      rw [if_neg (by simpa using h), e, ih]
      simp [h]
theorem verb_eq (op : Int) : lens_verb op = some (verbS op) := by
  unfold lens_verb verbS
  have h0 : (lim fun k => lens_verb_l0 op k 0) = some (match lVerbs.find? fun s => decide (opN s = op) with | some s => .inl s | none => .inr ()) :=
    lim_of 11 fun k hk => verb_l0 op lVerbs [] k rfl (by show 10 < k; omega)
  rw [h0]
  cases lVerbs.find? fun s => decide (opN s = op) <;> rfl

/-! ### Rows of words -/
theorem lens_le : ∀ l : List Str, Lib.lens l + l.length ≤ strsW l
  | [] => by simp [Lib.lens, strsW]
  | x :: l => by
    have := lens_le l
    simp only [Lib.lens, strsW, List.length_cons, List.map_cons, List.sum_cons] at this ⊢
    omega
theorem join_len (l : List Str) (sep : Str) (h : sep.length ≤ 2) : (Lib.join l sep).length ≤ 2 * strsW l := by
  cases l with
  | nil => simp [Lib.join_nil]
  | cons x r =>
    have h1 := lens_le (x :: r)
    have h2 : sep.length * r.length ≤ 2 * r.length := Nat.mul_le_mul_right _ h
    rw [Lib.join_length]
    simp only [List.length_cons] at h1
    omega
theorem sjoin_eq (l : List Str) (sep : Str) (hs : sep.length ≤ 2) (h : strsW l ≤ 1099511627776) : strings_Join l sep = some (Lib.join l sep) := by
  have h1 := join_len l sep hs
  have h2 := strsW_n l
  unfold strings_Join
  exact chk_eq (by omega) _
theorem strsW_app (a b : List Str) : strsW (a ++ b) = strsW a + strsW b := by
  induction a with
  | nil => simp [strsW]
  | cons x a ih => simp only [List.cons_append, strsW, ih]; omega

/-! ### Prims -/
theorem text_l0 (p : lens_Prim) : ∀ (suf pre ws : List Str) (k : Nat), [p.Kind, p.Name, p.New] = pre ++ suf → suf.length < k → (ws.length + suf.length) * 16 ≤ 140737488355328 → lens_Prim_text_l0 p k (pre.length : Int) ws = some (ws ++ suf.filter fun s => decide (s ≠ []))
  | suf, pre, ws, 0, _, hk, _ => by omega
  | [], pre, ws, k + 1, hp, hk, _ => by
    have hl := congrArg List.length hp
    simp only [List.length_append, List.length_nil, Nat.add_zero, List.length_cons] at hl
    have g : decide ((pre.length : Int) < ([p.Kind, p.Name, p.New].length : Int)) = false := by simp; omega
    rw [lens_Prim_text_l0, g]
    simp
  | s :: suf, pre, ws, k + 1, hp, hk, hw => by
    have hl := congrArg List.length hp
    simp only [List.length_append, List.length_nil, Nat.zero_add, List.length_cons] at hl hk hw
    have g : decide ((pre.length : Int) < ([p.Kind, p.Name, p.New].length : Int)) = true := by simp; omega
    have r : rd [p.Kind, p.Name, p.New] (pre.length : Int) = some s := by rw [hp]; exact rd_mid _ _ _
    have e : w64 ((pre.length : Int) + 1) = ((pre ++ [s]).length : Int) := by rw [w64_eq (by omega)]; simp
    rw [lens_Prim_text_l0, g]
    simp only [if_true]
    rw [r]
    simp only [Option.bind_some]
    by_cases h : s = []
    · rw [if_neg (by simp [h]), e, text_l0 p suf (pre ++ [s]) ws k (by simp [hp]) (by omega) (by omega)]
      simp [h]
    · rw [if_pos (by simpa using h), app_eq (by simp; omega)]
      simp only [Option.bind_some]
      rw [e, text_l0 p suf (pre ++ [s]) (ws ++ [s]) k (by simp [hp]) (by omega) (by simp; omega)]
      simp [h]
def pairsT (v t : List Str) : List Str := List.zipWith (fun a b => a ++ [58] ++ b) v t
theorem pairs_w : ∀ v t : List Str, strsW (pairsT v t) ≤ 2 * (strsW v + strsW t)
  | [], t => by simp [pairsT, strsW]
  | v :: vs, [] => by simp [pairsT, strsW]
  | v :: vs, t :: ts => by
    have := pairs_w vs ts
    simp only [pairsT, List.zipWith_cons_cons, strsW, List.length_append, List.length_cons, List.length_nil] at this ⊢
    omega
theorem text_l2 (p : lens_Prim) : ∀ (v tb pb : List Str) (i : Int) (out : List Str), p.To = pb ++ tb → i = (pb.length : Int) → v.length = tb.length → strsW v + strsW tb ≤ 1099511627776 → out.length + v.length ≤ 1099511627776 → lens_Prim_text_l2 p v i out = some (out ++ pairsT v tb)
  | [], tb, pb, i, out, _, _, hl, _, _ => by simp [lens_Prim_text_l2, pairsT]
  | x :: v, [], pb, i, out, _, _, hl, _, _ => by simp at hl
  | x :: v, y :: tb, pb, i, out, hp, hi, hl, hw, ho => by
    simp only [List.length_cons, strsW] at hl hw ho
    have r : rd p.To i = some y := by rw [hp, hi]; exact rd_mid _ _ _
    rw [lens_Prim_text_l2, chk_eq (by simp; omega), r]
    simp only [Option.bind_some]
    rw [chk_eq (by simp; omega), app_eq (by simp; omega)]
    simp only [Option.bind_some]
    rw [text_l2 p v tb (pb ++ [y]) _ _ (by simp [hp]) (by simp [hi]) (by omega) (by omega) (by simp; omega)]
    simp [pairsT]
def valsT (v : List Str) : Str := if Lib.join v [124] = [] then [42] else Lib.join v [124]
def pwords (p : lens_Prim) : List Str :=
  if p.Op = 97 ∨ p.Op = 100 then [verbS p.Op, p.Kind, p.Name ++ ([61] ++ valsT p.Values)]
  else if p.Op = 116 then [verbS p.Op, p.Kind, p.Name, Lib.join (pairsT p.Values p.To) [44]]
  else verbS p.Op :: [p.Kind, p.Name, p.New].filter fun s => decide (s ≠ [])
def ptext (p : lens_Prim) : Str := Lib.join (pwords p) [32]
theorem name_ne {s : Str} (h : isName s = true) : s ≠ [] ∧ s.all letter = true := by
  unfold isName at h
  simp only [Bool.and_eq_true, decide_eq_true_eq] at h
  exact ⟨h.1.1.2, h.1.1.1⟩
theorem verb_w (op : Int) : (verbS op).length ≤ 6 := by
  unfold verbS
  cases h : lVerbs.find? fun s => decide (opN s = op) with
  | none => simp
  | some s =>
    have := List.mem_of_find?_eq_some h
    simp only [lVerbs, List.mem_cons, List.not_mem_nil, or_false] at this
    simp only [Option.getD_some]
    rcases this with rfl | rfl | rfl | rfl | rfl | rfl | rfl | rfl | rfl | rfl <;> simp
theorem filt_w (a b c : Str) : strsW ([a, b, c].filter fun s => decide (s ≠ [])) ≤ 3 + a.length + b.length + c.length := by
  simp only [List.filter_cons, List.filter_nil]
  split <;> split <;> split <;> simp [strsW] <;> omega
theorem ptext_eq (p : lens_Prim) (h : primB p = true) (hw : pW p ≤ 1073741824) : lens_Prim_text p = some (ptext p) := by
  have hv := verb_w p.Op
  have hf := filt_w p.Kind p.Name p.New
  have hw' := hw
  unfold pW at hw'
  have h0 : (lim fun k => lens_Prim_text_l0 p k 0 [verbS p.Op]) = some (verbS p.Op :: [p.Kind, p.Name, p.New].filter fun s => decide (s ≠ [])) :=
    lim_of 4 fun k hk => text_l0 p [p.Kind, p.Name, p.New] [] [verbS p.Op] k rfl (by simp; omega) (by simp)
  unfold lens_Prim_text
  rw [verb_eq]
  simp only [Option.bind_some]
  rw [h0]
  simp only [Option.bind_some]
  by_cases h1 : p.Op = 97 ∨ p.Op = 100
  · have hb : (if (p.Op == (97 : Int)) = true then some (p.Op == (97 : Int)) else some (p.Op == (100 : Int)) : Option Bool) = some true := by
      rcases h1 with e | e <;> simp [e]
    rw [hb]
    simp only [Option.bind_some, if_true]
    unfold primB at h
    rw [if_neg (by omega), if_neg (by omega), if_neg (by omega), if_neg (by omega), if_pos h1] at h
    simp only [Bool.and_eq_true, decide_eq_true_eq] at h
    obtain ⟨⟨⟨⟨a1, a2⟩, a3⟩, a4⟩, a5⟩ := h
    obtain ⟨k1, k2⟩ := name_ne a3
    obtain ⟨n1, n2⟩ := name_ne a4
    have hfl : [p.Kind, p.Name, p.New].filter (fun s => decide (s ≠ [])) = [p.Kind, p.Name] := by simp [k1, n1, a5]
    have hj := join_len p.Values [124] (by simp)
    rw [hfl, sjoin_eq _ _ (by simp) (by omega)]
    simp only [Option.bind_some]
    have r : rd [verbS p.Op, p.Kind, p.Name] 2 = some p.Name := rfl
    have wr' : ∀ x : Str, wr [verbS p.Op, p.Kind, p.Name] 2 x = some [verbS p.Op, p.Kind, x] := fun x => rfl
    have fin : ∀ v : Str, valsT p.Values = v → v.length ≤ 2 * strsW p.Values + 1 → ((rd [verbS p.Op, p.Kind, p.Name] (2 : Int)).bind fun x_14 =>
      chk (([61] : Str).length + v.length ≤ 9223372036854775807) (
        chk (x_14.length + (([61] : Str) ++ v).length ≤ 9223372036854775807) (
          (wr [verbS p.Op, p.Kind, p.Name] (2 : Int) (x_14 ++ (([61] : Str) ++ v))).bind fun l_15 =>
          (strings_Join l_15 ([32] : Str)).bind fun join_16 =>
          some join_16))) = some (ptext p) := by
      intro v hv' hvl
      rw [r]
      simp only [Option.bind_some]
      rw [chk_eq (by simp; omega), chk_eq (by simp; omega), wr']
      simp only [Option.bind_some]
      rw [sjoin_eq _ _ (by simp) (by simp only [strsW, List.length_append, List.length_cons, List.length_nil]; omega)]
      simp only [Option.bind_some, Option.some.injEq]
      unfold ptext pwords
      rw [if_pos h1, hv']
    by_cases hjn : Lib.join p.Values [124] = []
    · rw [if_pos (by simp [hjn])]
      exact fin [42] (by unfold valsT; rw [if_pos hjn]) (by simp)
    · rw [if_neg (by simpa using hjn)]
      exact fin _ (by unfold valsT; rw [if_neg hjn]) (by omega)
  · have hb : (if (p.Op == (97 : Int)) = true then some (p.Op == (97 : Int)) else some (p.Op == (100 : Int)) : Option Bool) = some false := by
      have a : ¬ p.Op = 97 := fun e => h1 (.inl e)
      have b : ¬ p.Op = 100 := fun e => h1 (.inr e)
      simp [a, b]
    rw [hb]
    simp only [Option.bind_some, Bool.false_eq_true, if_false]
    by_cases h2 : p.Op = 116
    · unfold primB at h
      rw [if_neg (by omega), if_neg (by omega), if_neg (by omega), if_pos h2] at h
      simp only [Bool.and_eq_true, decide_eq_true_eq] at h
      obtain ⟨⟨⟨⟨⟨a1, a2⟩, a3⟩, a4⟩, a5⟩, a6⟩ := h
      obtain ⟨k1, k2⟩ := name_ne a4
      obtain ⟨n1, n2⟩ := name_ne a5
      have hfl : [p.Kind, p.Name, p.New].filter (fun s => decide (s ≠ [])) = [p.Kind, p.Name] := by simp [k1, n1, a6]
      have hvn := strsW_n p.Values
      have hpw := pairs_w p.Values p.To
      have hjl := join_len (pairsT p.Values p.To) [44] (by simp)
      rw [if_pos (by simp [h2]), chk_eq (by omega), text_l2 p p.Values p.To [] 0 [] rfl rfl a3 (by omega) (by simp; omega)]
      simp only [Option.bind_some, List.nil_append]
      rw [sjoin_eq _ _ (by simp) (by omega)]
      simp only [Option.bind_some]
      rw [hfl, app_eq (by simp)]
      simp only [Option.bind_some]
      rw [sjoin_eq _ _ (by simp) (by simp only [strsW, List.cons_append, List.nil_append]; omega)]
      simp only [Option.bind_some, Option.some.injEq]
      unfold ptext pwords
      rw [if_neg h1, if_pos h2]
      rfl
    · rw [if_neg (by simpa using h2), sjoin_eq _ _ (by simp) (by simp only [strsW]; omega)]
      simp only [Option.bind_some, Option.some.injEq]
      unfold ptext pwords
      rw [if_neg h1, if_neg h2]

/-! ### Lenses -/
mutual
def ltext : lens_Lens → Str
  | ⟨p, t, ks⟩ => if p.Op = 0 then (if t = true then [105, 110, 118, 101, 114, 116, 40] ++ Lib.join (ltexts ks) [59, 32] ++ [41] else Lib.join (ltexts ks) [59, 32]) else ptext p
def ltexts : List lens_Lens → List Str
  | [] => []
  | l :: r => ltext l :: ltexts r
end
theorem ltext_eq (l : lens_Lens) : ltext l = if l.Prim.Op = 0 then (if l.Turned = true then [105, 110, 118, 101, 114, 116, 40] ++ Lib.join (ltexts l.Kids) [59, 32] ++ [41] else Lib.join (ltexts l.Kids) [59, 32]) else ptext l.Prim := by
  cases l; simp only [ltext]
/-- How many letters a lens has at most, written: so many times its weight, and so deep. -/
theorem valsT_len (v : List Str) : (valsT v).length ≤ 2 * strsW v + 1 := by
  have := join_len v [124] (by simp)
  unfold valsT
  split <;> simp <;> omega
theorem ptext_len (p : lens_Prim) : (ptext p).length ≤ 40 + 16 * pW p := by
  have hv := verb_w p.Op
  have h1 := valsT_len p.Values
  have h2 := pairs_w p.Values p.To
  have h3 := join_len (pairsT p.Values p.To) [44] (by simp)
  have h4 := filt_w p.Kind p.Name p.New
  have h5 := join_len (pwords p) [32] (by simp)
  unfold ptext
  unfold pwords at h5 ⊢
  unfold pW
  split at h5
  · rename_i h
    rw [if_pos h]
    simp only [strsW, List.length_append, List.length_cons, List.length_nil] at h5
    omega
  · rename_i h
    rw [if_neg h]
    split at h5
    · rename_i h'
      rw [if_pos h']
      simp only [strsW] at h5
      omega
    · rename_i h'
      rw [if_neg h']
      simp only [strsW] at h5
      omega
theorem jlen2 (l : List Str) : (Lib.join l [59, 32]).length ≤ Lib.lens l + 2 * l.length := by
  cases l with
  | nil => simp [Lib.join_nil]
  | cons x r => rw [Lib.join_length]; simp only [List.length_cons, List.length_nil]; omega
theorem lens_cons (x : Str) (l : List Str) : Lib.lens (x :: l) = x.length + Lib.lens l := by simp [Lib.lens]
theorem ltexts_n : ∀ l : List lens_Lens, (ltexts l).length = l.length
  | [] => rfl
  | x :: l => by simp [ltexts, ltexts_n l]
theorem ltexts_len : ∀ (l : List lens_Lens), (∀ x ∈ l, (ltext x).length + 2 ≤ 50 * lW x) → Lib.lens (ltexts l) + 2 * l.length ≤ 50 * lWs l
  | [], _ => by simp [ltexts, Lib.lens]
  | x :: l, h => by
    have h1 := h x (by simp)
    have h2 := ltexts_len l fun y hy => h y (by simp [hy])
    simp only [ltexts, lens_cons, lWs, List.length_cons]; omega
theorem ltext_len (l : lens_Lens) : (ltext l).length + 2 ≤ 50 * lW l := by
  induction l using lens_Lens.ind with
  | h l ih =>
    have h1 := ltexts_len l.Kids ih
    have h2 := jlen2 (ltexts l.Kids)
    have h3 := ptext_len l.Prim
    rw [ltexts_n] at h2
    rw [ltext_eq, lW_eq]
    split
    · split
      · simp only [List.length_append, List.length_cons, List.length_nil]; omega
      · omega
    · omega
theorem lens_strs (l : List Str) : strsW l = Lib.lens l + l.length := by
  induction l with
  | nil => simp [Lib.lens, strsW]
  | cons x l ih => rw [lens_cons]; simp only [strsW, List.length_cons, ih]; omega

theorem ltext_l0 (f : lens_Lens → Option Str) : ∀ (l : List lens_Lens) (i : Int) (out : List Str), (∀ k ∈ l, f k = some (ltext k)) → out.length + l.length ≤ 1099511627776 → lens_Lens_text_l0 f l i out = some (out ++ ltexts l)
  | [], i, out, _, _ => by simp [lens_Lens_text_l0, ltexts]
  | x :: l, i, out, h, hb => by
    simp only [List.length_cons] at hb
    rw [lens_Lens_text_l0, h x (by simp)]
    simp only [Option.bind_some]
    rw [app_eq (by simp; omega)]
    simp only [Option.bind_some]
    rw [ltext_l0 f l _ _ (fun k hk => h k (by simp [hk])) (by simp; omega)]
    simp [ltexts]
theorem lforms_mem : ∀ {l : List lens_Lens}, lforms l = true → ∀ x ∈ l, isRow x = false ∧ lform x = true
  | y :: l, h, x, hx => by
    rw [lforms] at h
    simp only [Bool.and_eq_true, Bool.not_eq_true'] at h
    rcases List.mem_cons.1 hx with rfl | hx
    · exact h.1
    · exact lforms_mem h.2 x hx
theorem lform_kids {l : lens_Lens} (h : lform l = true) (h0 : l.Prim.Op = 0) : emptyP l.Prim = true ∧ (l.Turned = true ∨ l.Kids.length ≠ 1) ∧ lforms l.Kids = true := by
  rw [lform_eq, if_pos h0] at h
  simpa [and_assoc] using h
theorem lform_prim {l : lens_Lens} (h : lform l = true) (h0 : ¬ l.Prim.Op = 0) : primB l.Prim = true ∧ l.Turned = false ∧ l.Kids = [] := by
  rw [lform_eq, if_neg h0] at h
  simpa [and_assoc] using h
theorem ltext_k (l : lens_Lens) : lW l ≤ 1048577 → lform l = true → ∀ kr, lD l ≤ kr → lens_Lens_text_k kr l = some (ltext l) := by
  induction l using lens_Lens.ind with
  | h l ih =>
    intro hw hf kr hk
    have hd := lD_eq l
    have hwt := lW_eq l
    have hl := lWs_len l.Kids
    obtain ⟨kr, rfl⟩ : ∃ j, kr = j + 1 := ⟨kr - 1, by omega⟩
    rw [lens_Lens_text_k, ltext_eq]
    by_cases h0 : l.Prim.Op = 0
    · obtain ⟨f1, f2, f3⟩ := lform_kids hf h0
      have h1 := ltexts_len l.Kids fun x _ => ltext_len x
      have h2 := jlen2 (ltexts l.Kids)
      have h3 := lens_strs (ltexts l.Kids)
      rw [ltexts_n] at h2 h3
      rw [if_neg (by simp [h0]), if_pos h0, chk_eq (by omega), ltext_l0 _ l.Kids 0 [] (fun k hkk => ih k hkk (by have := lW_mem hkk; omega) (lforms_mem f3 k hkk).2 kr (by have := lD_mem hkk; omega)) (by simp; omega)]
      simp only [Option.bind_some, List.nil_append]
      rw [sjoin_eq _ _ (by simp) (by omega)]
      simp only [Option.bind_some]
      by_cases ht : l.Turned = true
      · rw [if_pos ht, if_pos ht, chk_eq (by simp; omega), chk_eq (by simp; omega)]
      · rw [if_neg ht, if_neg ht]
    · obtain ⟨f1, f2, f3⟩ := lform_prim hf h0
      rw [if_pos (by simpa using h0), if_neg h0, ptext_eq _ f1 (by omega)]
      rfl
theorem print_eq (l : lens_Lens) (h : lW l ≤ 1048577) : lens_Print l = some (if lright l = true then (ltext l, 0) else ([], 2)) := by
  unfold lens_Print
  rw [lright_eq l (by omega)]
  simp only [Option.bind_some]
  cases hr : lright l with
  | false => rfl
  | true =>
    have hf : lform l = true := by
      unfold lright at hr
      simp only [Bool.and_eq_true] at hr
      exact hr.2
    have ht : lens_Lens_text l = some (ltext l) := by
      unfold lens_Lens_text
      exact lim_of (lD l) fun kr hk => ltext_k l h hf kr hk
    simp only [Bool.not_true, Bool.false_eq_true, if_false]
    rw [ht]
    rfl

end Go.Proofs.YtpjdafhmneiohaaDoor
