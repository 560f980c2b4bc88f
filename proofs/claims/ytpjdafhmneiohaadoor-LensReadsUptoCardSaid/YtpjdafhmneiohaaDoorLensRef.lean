/- What a right lens is, and how it is written: the reference's answer. -/
import Derived.Test.YtpjdafhmneiohaaDoorLensText
import Derived.Test.YtpjdafhmneiohaaDoorLensSame
import Derived.Test.YtpjdafhmneiohaaDoorRName
namespace Go.Proofs.YtpjdafhmneiohaaDoor
set_option linter.unusedSimpArgs false
set_option linter.unusedVariables false
open Go

mutual
def rL : lens_Lens → diptychref13_Lens
  | ⟨p, t, ks⟩ => ⟨rP p, t, rLs ks⟩
def rLs : List lens_Lens → List diptychref13_Lens
  | [] => []
  | l :: r => rL l :: rLs r
end
theorem rL_eq (l : lens_Lens) : rL l = ⟨rP l.Prim, l.Turned, rLs l.Kids⟩ := by cases l; simp only [rL]
theorem rLs_len : ∀ l : List lens_Lens, (rLs l).length = l.length
  | [] => rfl
  | x :: l => by simp [rLs, rLs_len l]
theorem rL_prim (l : lens_Lens) : (rL l).Prim = rP l.Prim := by rw [rL_eq]
theorem asLens_l0 (f : lens_Lens → Option diptychref13_Lens) : ∀ (l : List lens_Lens) (i : Int) (out : List diptychref13_Lens), (∀ k ∈ l, f k = some (rL k)) → out.length + l.length ≤ 1073741824 → diptychlaw13_asLens_l0 f l i out = some (out ++ rLs l)
  | [], i, out, _, _ => by simp [diptychlaw13_asLens_l0, rLs]
  | x :: l, i, out, h, hb => by
    simp only [List.length_cons] at hb
    rw [diptychlaw13_asLens_l0, h x (by simp)]
    simp only [Option.bind_some]
    rw [app_eq (by simp; omega)]
    simp only [Option.bind_some]
    rw [asLens_l0 f l _ _ (fun k hk => h k (by simp [hk])) (by simp; omega)]
    simp [rLs]
theorem asLens_k (l : lens_Lens) : lW l ≤ 1073741824 → ∀ kr, lD l ≤ kr → diptychlaw13_asLens_k kr l = some (rL l) := by
  induction l using lens_Lens.ind with
  | h l ih =>
    intro hw kr hk
    have hd := lD_eq l
    have hwt := lW_eq l
    have hl := lWs_len l.Kids
    obtain ⟨kr, rfl⟩ : ∃ j, kr = j + 1 := ⟨kr - 1, by omega⟩
    rw [diptychlaw13_asLens_k, asPrim_eq]
    simp only [Option.bind_some]
    rw [chk_eq (by omega), asLens_l0 _ l.Kids 0 [] (fun k hkk => ih k hkk (by have := lW_mem hkk; omega) kr (by have := lD_mem hkk; omega)) (by simp; omega), rL_eq]
    rfl
theorem asLens_eq (l : lens_Lens) (h : lW l ≤ 1073741824) : diptychlaw13_asLens l = some (rL l) := by
  unfold diptychlaw13_asLens
  exact lim_of (lD l) fun kr hk => asLens_k l h kr hk

/-! ### How many -/
theorem rmany_l0 (f : diptychref13_Lens → Option Int) : ∀ (l : List lens_Lens) (i : Int) (n : Nat), (∀ k ∈ l, f (rL k) = some (lmany k : Int)) → n + lmanys l ≤ 9223372036854775807 → diptychref13_many_l0 f (rLs l) i (n : Int) = some ((n + lmanys l : Nat) : Int)
  | [], i, n, _, _ => by simp [diptychref13_many_l0, lmanys, rLs]
  | x :: l, i, n, h, hb => by
    simp only [lmanys] at hb
    rw [rLs, diptychref13_many_l0, h x (by simp)]
    simp only [Option.bind_some]
    have e : w64 ((n : Int) + (lmany x : Int)) = ((n + lmany x : Nat) : Int) := by rw [w64_eq (by omega)]; omega
    rw [e, rmany_l0 f l _ _ (fun k hk => h k (by simp [hk])) (by omega)]
    simp only [lmanys, Nat.add_assoc]
theorem rmany_k (l : lens_Lens) : lW l ≤ 1099511627776 → ∀ kr, lD l ≤ kr → diptychref13_many_k kr (rL l) = some (lmany l : Int) := by
  induction l using lens_Lens.ind with
  | h l ih =>
    intro hw kr hk
    have hd := lD_eq l
    have hwt := lW_eq l
    have hl := lWs_len l.Kids
    have hm := lmanys_le l.Kids fun x _ => lmany_le x
    obtain ⟨kr, rfl⟩ : ∃ j, kr = j + 1 := ⟨kr - 1, by omega⟩
    have h1 : ((1 : Nat) : Int) = 1 := rfl
    rw [diptychref13_many_k, rL_eq]
    simp only
    rw [chk_eq (by rw [rLs_len]; omega), ← h1, rmany_l0 _ l.Kids 0 1 (fun k hkk => ih k hkk (by have := lW_mem hkk; omega) kr (by have := lD_mem hkk; omega)) (by omega), lmany_eq]
    rfl
theorem rmany_eq (l : lens_Lens) (h : lW l ≤ 1099511627776) : diptychref13_many (rL l) = some (lmany l : Int) := by
  unfold diptychref13_many
  exact lim_of (lD l) fun kr hk => rmany_k l h kr hk

/-! ### Prims -/
theorem all_l0 : ∀ (l : List Str) (i : Int), (∀ s ∈ l, s.length ≤ 1099511627776) → diptychref13_all_l0 l i = some (sumB (l.all isName))
  | [], i, _ => rfl
  | y :: l, i, h => by
    have hy := h y (by simp)
    rw [diptychref13_all_l0, rname_eq y (by omega)]
    simp only [Option.bind_some, List.all_cons]
    cases isName y with
    | false => rfl
    | true => simpa using all_l0 l (i + 1) fun s hs => h s (by simp [hs])
theorem all_l1 : ∀ (l : List Str) (i : Int), diptychref13_all_l1 l i = some (sumB (l.all fun s => decide (s = [])))
  | [], i => rfl
  | y :: l, i => by
    rw [diptychref13_all_l1, beq_nil]
    simp only [List.all_cons]
    cases decide (y = []) with
    | false => rfl
    | true => simpa using all_l1 l (i + 1)
theorem all_eq (a b : List Str) (ha : ∀ s ∈ a, s.length ≤ 1099511627776) (h1 : a.length ≤ 10) (h2 : b.length ≤ 10) : diptychref13_all a b = some (a.all isName && b.all fun s => decide (s = [])) := by
  unfold diptychref13_all
  rw [chk_eq (by omega), all_l0 a 0 ha]
  cases a.all isName with
  | false => rfl
  | true =>
    simp only [sumB, Option.bind_some, Bool.true_and]
    rw [chk_eq (by omega), all_l1 b 0]
    cases b.all fun s => decide (s = []) <;> rfl
theorem once_l3 (l : List Str) (y : Str) (hl : l.length ≤ 1099511627776) : ∀ (rest pre tail : List Str) (k : Nat), l = pre ++ rest ++ tail → rest.length < k → diptychref13_once_l3 l ((pre ++ rest).length : Int) y k (pre.length : Int) = some (if y ∈ rest then .inl false else .inr ())
  | rest, pre, tail, 0, _, hk => by omega
  | [], pre, tail, k + 1, h, hk => by
    rw [diptychref13_once_l3, if_neg (by simp)]
    simp
  | s :: rest, pre, tail, k + 1, h, hk => by
    have hlen := congrArg List.length h
    simp only [List.length_append, List.length_cons] at hlen hk
    have r : rd l (pre.length : Int) = some s := by rw [h, List.append_assoc]; exact rd_mid _ _ _
    have e : w64 ((pre.length : Int) + 1) = ((pre ++ [s]).length : Int) := by rw [w64_eq (by omega)]; simp
    have e2 : (pre ++ s :: rest) = (pre ++ [s]) ++ rest := by simp
    rw [diptychref13_once_l3, if_pos (by simp; omega), r]
    simp only [Option.bind_some]
    by_cases hy : s = y
    · rw [if_pos (by simp [hy])]
      simp [hy]
    · rw [if_neg (by simpa using hy), e, e2, once_l3 l y hl rest (pre ++ [s]) tail k (by simp [h]) (by omega)]
      have : ¬ y = s := Ne.symm hy
      simp [this]
theorem once_l0 (l : List Str) (hl : l.length ≤ 1099511627776) : ∀ (suf pre : List Str), l = pre ++ suf → (∀ s ∈ suf, s.length ≤ 1099511627776) → diptychref13_once_l0 l suf (pre.length : Int) = some (sumB (valsFrom pre suf))
  | [], pre, _, _ => rfl
  | y :: suf, pre, h, hs => by
    have hy := hs y (by simp)
    have ih := once_l0 l hl suf (pre ++ [y]) (by simp [h]) fun s hh => hs s (by simp [hh])
    have e2 : ((pre ++ [y]).length : Int) = (pre.length : Int) + 1 := by simp
    rw [e2] at ih
    have h3 : (lim fun k => diptychref13_once_l3 l (pre.length : Int) y k 0) = some (if y ∈ pre then .inl false else .inr ()) := by
      refine lim_of (pre.length + 1) fun k hk => ?_
      have := once_l3 l y hl pre [] (y :: suf) k (by simpa using h) (by omega)
      simpa using this
    rw [diptychref13_once_l0, h3]
    simp only [Option.bind_some, valsFrom]
    by_cases hm : y ∈ pre
    · simp [hm, sumB]
    · simp only [hm, if_false, decide_false, Bool.not_false, Bool.and_true]
      rw [rname_eq y (by omega)]
      simp only [Option.bind_some]
      cases isName y with
      | false => rfl
      | true => simpa using ih
theorem once_eq (l : List Str) (least : Nat) (hw : strsW l ≤ 1099511627776) : diptychref13_once l (least : Int) = some (valsB l least) := by
  have hn := strsW_n l
  have h0 := once_l0 l (by omega) l [] rfl fun s hs => by have := strsW_mem hs; omega
  have h0' : diptychref13_once_l0 l l 0 = some (sumB (valsFrom [] l)) := h0
  unfold diptychref13_once valsB
  rw [chk_eq (by omega), h0']
  cases valsFrom [] l with
  | false => rfl
  | true =>
    simp only [sumB, Option.bind_some, Bool.true_and]
    by_cases h1 : least ≤ l.length
    · rw [if_pos (by simp; omega)]
      simp only [h1, decide_true, Bool.true_and, Option.some.injEq]
      exact decide_eq_decide.2 (by omega)
    · rw [if_neg (by simp; omega)]
      simp [h1]
theorem rprim_eq (p : lens_Prim) (h : pW p ≤ 1099511627776) : diptychref13_prim (rP p) = some (primB p) := by
  have h' := h
  unfold pW at h'
  have v0 := once_eq p.Values 0 (by omega)
  have v1 := once_eq p.Values 1 (by omega)
  have v2 := once_eq p.To 1 (by omega)
  have c0 : ((0 : Nat) : Int) = 0 := rfl
  have c1 : ((1 : Nat) : Int) = 1 := rfl
  rw [c0] at v0
  rw [c1] at v1 v2
  have hno := none_eq p h
  have tl : ((p.To.length : Int) == 0) = decide (p.To = []) := by cases p.To <;> simp; omega
  have a1 := all_eq [p.Kind, p.New] [p.Name] (by simp; omega) (by simp) (by simp)
  have a2 := all_eq [p.Name, p.New] [p.Kind] (by simp; omega) (by simp) (by simp)
  have a3 := all_eq [p.Kind, p.Name, p.New] [] (by simp; omega) (by simp) (by simp)
  have a4 := all_eq [p.Kind, p.Name] [p.New] (by simp; omega) (by simp) (by simp)
  unfold diptychref13_prim rP
  simp only
  rw [hno, a1, a2, a3, a4, v0, v1, v2, tl]
  simp only [Option.bind_some, List.all_cons, List.all_nil, Bool.and_true]
  unfold primB
  by_cases h1 : p.Op = 114
  · simp only [h1]
    cases noneP p <;> simp [Bool.and_assoc]
  by_cases h2 : p.Op = 119
  · simp only [h2]
    cases noneP p <;> simp [Bool.and_assoc]
  by_cases h3 : p.Op = 117
  · simp only [h3]
    cases noneP p <;> simp [Bool.and_assoc]
  by_cases h4 : p.Op = 109
  · simp only [h4]
    cases noneP p <;> simp [Bool.and_assoc]
  by_cases h5 : p.Op = 110
  · simp only [h5]
    cases noneP p <;> simp [Bool.and_assoc]
  by_cases h9 : p.Op = 104
  · simp only [h9]
    cases noneP p <;> simp [Bool.and_assoc]
  by_cases h10 : p.Op = 115
  · simp only [h10]
    cases noneP p <;> simp [Bool.and_assoc]
  by_cases h7 : p.Op = 97
  · simp only [h7]
    by_cases e2 : p.To = [] <;> cases valsB p.Values 0 <;> simp [e2, Bool.and_assoc]
  by_cases h8 : p.Op = 100
  · simp only [h8]
    by_cases e2 : p.To = [] <;> cases valsB p.Values 0 <;> simp [e2, Bool.and_assoc]
  by_cases h6 : p.Op = 116
  · simp only [h6]
    have e : ((p.Values.length : Int) == (p.To.length : Int)) = decide (p.Values.length = p.To.length) := by
      by_cases e : p.Values.length = p.To.length
      · simp [e]
      · rw [decide_eq_false e, beq_eq_false_iff_ne]; omega
    rw [e]
    by_cases e2 : p.Values.length = p.To.length <;> cases valsB p.Values 1 <;> cases valsB p.To 1 <;> simp [e2, Bool.and_assoc]
  simp [h1, h2, h3, h4, h5, h6, h7, h8, h9, h10]

/-! ### Lenses -/
theorem rformed_l1 (f : diptychref13_Lens → Option Bool) : ∀ (l : List lens_Lens) (i : Int), (∀ k ∈ l, f (rL k) = some (lform k)) → diptychref13_formed_l1 f (rLs l) i = some (sumB (lforms l))
  | [], i, _ => rfl
  | y :: l, i, h => by
    have ih := rformed_l1 f l (i + 1) fun k hk => h k (by simp [hk])
    rw [rLs, diptychref13_formed_l1, h y (by simp)]
    simp only [Option.bind_some, lforms]
    have e1 : (rL y).Prim.Op = y.Prim.Op := by rw [rL_eq]; rfl
    have e2 : (rL y).Turned = y.Turned := by rw [rL_eq]
    rw [e1, e2, ih]
    unfold isRow
    by_cases h0 : y.Prim.Op = 0
    · cases lform y <;> cases y.Turned <;> simp [h0, sumB]
    · cases lform y <;> simp [h0, sumB]
theorem rformed_k (l : lens_Lens) : lW l ≤ 1099511627776 → ∀ kr, lD l ≤ kr → diptychref13_formed_k kr (rL l) = some (lform l) := by
  induction l using lens_Lens.ind with
  | h l ih =>
    intro hw kr hk
    have hd := lD_eq l
    have hwt := lW_eq l
    have hl := lWs_len l.Kids
    have hwp : l.Prim.Kind.length + l.Prim.Name.length + l.Prim.New.length ≤ pW l.Prim := by unfold pW; omega
    obtain ⟨kr, rfl⟩ : ∃ j, kr = j + 1 := ⟨kr - 1, by omega⟩
    have hin := rformed_l1 (diptychref13_formed_k kr) l.Kids 0 fun k hkk => ih k hkk (by have := lW_mem hkk; omega) kr (by have := lD_mem hkk; omega)
    have hno := none_eq l.Prim (by omega)
    have hv := strsW_n l.Prim.Values
    have hto := strsW_n l.Prim.To
    have hpw : strsW l.Prim.Values + strsW l.Prim.To ≤ pW l.Prim := by unfold pW; omega
    rw [diptychref13_formed_k, rL_eq, lform_eq]
    simp only
    have eo : (rP l.Prim).Op = l.Prim.Op := rfl
    rw [eo]
    by_cases h0 : l.Prim.Op = 0
    · have ea := all_eq [] [l.Prim.Kind, l.Prim.Name, l.Prim.New] (by simp) (by simp) (by simp)
      have ea' : diptychref13_all [] [(rP l.Prim).Kind, (rP l.Prim).Name, (rP l.Prim).New] = _ := ea
      have eg : decide (w64 (((rP l.Prim).Values.length : Int) + ((rP l.Prim).To.length : Int)) > 0) = !noneP l.Prim := by
        have e1 : (rP l.Prim).Values = l.Prim.Values := rfl
        have e2 : (rP l.Prim).To = l.Prim.To := rfl
        rw [e1, e2, ← hno, w64_eq (by omega)]
        by_cases e : (l.Prim.Values.length : Int) + (l.Prim.To.length : Int) = 0
        · rw [decide_eq_false (by omega), e]; rfl
        · rw [decide_eq_true (by omega), beq_eq_false_iff_ne.2 e]; rfl
      have g : (((rLs l.Kids).length : Int) == 1) = !decide (l.Kids.length ≠ 1) := by
        rw [rLs_len]
        by_cases g : l.Kids.length = 1
        · simp [g]
        · rw [decide_eq_true g]; simp; omega
      rw [if_neg (by simp [h0]), if_pos h0, ea', eg, g]
      simp only [Option.bind_some, List.all_nil, List.all_cons, Bool.and_true, Bool.true_and]
      rw [chk_eq (by rw [rLs_len]; omega), hin]
      have ee : (decide (l.Prim.Kind = []) && (decide (l.Prim.Name = []) && decide (l.Prim.New = []))) = decide (l.Prim.Kind = [] ∧ l.Prim.Name = [] ∧ l.Prim.New = []) := by simp
      rw [ee]
      unfold emptyP
      cases decide (l.Prim.Kind = [] ∧ l.Prim.Name = [] ∧ l.Prim.New = []) <;> cases noneP l.Prim <;> cases l.Turned <;> cases decide (l.Kids.length ≠ 1) <;> cases lforms l.Kids <;> simp [sumB]
    · rw [if_pos (by simpa using h0), if_neg h0, rprim_eq _ (by omega)]
      have g : (((rLs l.Kids).length : Int) == 0) = decide (l.Kids = []) := by rw [rLs_len]; cases l.Kids <;> simp; omega
      rw [g]
      cases primB l.Prim <;> cases l.Turned <;> simp
theorem rright_eq (l : lens_Lens) (h : lW l ≤ 1099511627776) : diptychref13_Right (rL l) = some (lright l) := by
  have hf : diptychref13_formed (rL l) = some (lform l) := by
    unfold diptychref13_formed
    exact lim_of (lD l) fun kr hk => rformed_k l h kr hk
  unfold diptychref13_Right lright
  rw [rmany_eq l h, hf]
  simp only [Option.bind_some]
  by_cases hm : lmany l ≤ 20
  · rw [if_pos (by simp; omega)]; simp [hm]
  · rw [if_neg (by simp; omega)]; simp [hm]

/-! ### Written -/
theorem row_l0 (sign : Str) (hs : sign.length ≤ 2) : ∀ (l : List Str) (i : Nat) (acc : Str), 0 < i → acc.length + 2 * l.length + Lib.lens l ≤ 1099511627776 → diptychref13_row_l0 sign l (i : Int) acc = some (acc ++ Lib.joinTail sign l)
  | [], i, acc, _, _ => by simp [diptychref13_row_l0, Lib.joinTail]
  | y :: l, i, acc, hi, h => by
    rw [lens_cons, List.length_cons] at h
    have ih := row_l0 sign hs l (i + 1) (acc ++ sign ++ y) (by omega) (by simp; omega)
    rw [diptychref13_row_l0, if_pos (by simp; omega), chk_eq (by omega), chk_eq (by simp; omega)]
    have e : ((i + 1 : Nat) : Int) = (i : Int) + 1 := by omega
    rw [e] at ih
    rw [ih]
    simp [Lib.joinTail]
theorem row_eq (l : List Str) (sign : Str) (hs : sign.length ≤ 2) (h : strsW l ≤ 536870912) : diptychref13_row l sign = some (Lib.join l sign) := by
  have hn := strsW_n l
  rw [lens_strs] at h
  unfold diptychref13_row
  rw [chk_eq (by omega)]
  cases l with
  | nil => rfl
  | cons x r =>
    rw [lens_cons, List.length_cons] at h
    have ih := row_l0 sign hs r 1 x (by omega) (by omega)
    rw [diptychref13_row_l0, if_neg (by simp), chk_eq (by simp; omega), Lib.join_cons]
    have ih' : diptychref13_row_l0 sign r (0 + 1) ([] ++ x) = some (x ++ Lib.joinTail sign r) := ih
    rw [ih']
    rfl
theorem word_l1 (p : lens_Prim) : ∀ (v tb pb : List Str) (i : Int) (out : List Str), p.To = pb ++ tb → i = (pb.length : Int) → v.length = tb.length → strsW v + strsW tb ≤ 1073741824 → out.length + v.length ≤ 1073741824 → diptychref13_word_l1 (rP p) v i out = some (out ++ pairsT v tb)
  | [], tb, pb, i, out, _, _, hl, _, _ => by simp [diptychref13_word_l1, pairsT]
  | x :: v, [], pb, i, out, _, _, hl, _, _ => by simp at hl
  | x :: v, y :: tb, pb, i, out, hp, hi, hl, hw, ho => by
    simp only [List.length_cons, strsW] at hl hw ho
    have et : (rP p).To = pb ++ y :: tb := hp
    have hlen := congrArg List.length et
    simp only [List.length_append, List.length_cons] at hlen
    have r : rd (rP p).To i = some y := by rw [et, hi]; exact rd_mid _ _ _
    rw [diptychref13_word_l1, if_pos (by simp; omega), chk_eq (by simp; omega), r]
    simp only [Option.bind_some]
    rw [chk_eq (by simp; omega), app_eq (by simp; omega)]
    simp only [Option.bind_some]
    rw [word_l1 p v tb (pb ++ [y]) _ _ (by simp [hp]) (by simp [hi]) (by omega) (by omega) (by simp; omega)]
    simp [pairsT]
theorem join2 (a b c : Str) : Lib.join [a, b, c] [32] = a ++ [32] ++ b ++ [32] ++ c := by simp [Lib.join_cons, Lib.joinTail]
theorem join3 (a b c d : Str) : Lib.join [a, b, c, d] [32] = a ++ [32] ++ b ++ [32] ++ c ++ [32] ++ d := by simp [Lib.join_cons, Lib.joinTail]
end Go.Proofs.YtpjdafhmneiohaaDoor
