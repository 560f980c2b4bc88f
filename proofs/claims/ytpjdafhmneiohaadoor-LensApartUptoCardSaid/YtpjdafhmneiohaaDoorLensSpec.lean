/- Lenses, plainly: weight, how many, turned, flat, inverted: the program's. -/
import Derived.Test.YtpjdafhmneiohaaDoorName
namespace Go.Proofs.YtpjdafhmneiohaaDoor
set_option linter.unusedSimpArgs false
set_option linter.unusedVariables false
open Go

theorem lens_Lens.ind {p : lens_Lens → Prop} (h : ∀ l : lens_Lens, (∀ k ∈ l.Kids, p k) → p l) : ∀ l, p l
  | ⟨a, b, ks⟩ => h _ fun k hk => lens_Lens.ind h k
  termination_by l => l
  decreasing_by
    have : SizeOf.sizeOf k < SizeOf.sizeOf ks := List.sizeOf_lt_of_mem hk
    simp only [lens_Lens.mk.sizeOf_spec]
    omega

def pW (p : lens_Prim) : Nat := p.Kind.length + p.Name.length + p.New.length + strsW p.Values + strsW p.To
mutual
def lW : lens_Lens → Nat
  | ⟨p, _, ks⟩ => 1 + pW p + lWs ks
def lWs : List lens_Lens → Nat
  | [] => 0
  | l :: r => lW l + lWs r
end
mutual
def lD : lens_Lens → Nat
  | ⟨_, _, ks⟩ => 1 + lDs ks
def lDs : List lens_Lens → Nat
  | [] => 0
  | l :: r => max (lD l) (lDs r)
end
mutual
/-- How many lenses are in one. -/
def lmany : lens_Lens → Nat
  | ⟨_, _, ks⟩ => 1 + lmanys ks
def lmanys : List lens_Lens → Nat
  | [] => 0
  | l :: r => lmany l + lmanys r
end
theorem lW_eq (l : lens_Lens) : lW l = 1 + pW l.Prim + lWs l.Kids := by cases l; simp only [lW]
theorem lD_eq (l : lens_Lens) : lD l = 1 + lDs l.Kids := by cases l; simp only [lD]
theorem lmany_eq (l : lens_Lens) : lmany l = 1 + lmanys l.Kids := by cases l; simp only [lmany]
theorem lW_mem {x : lens_Lens} : ∀ {l : List lens_Lens}, x ∈ l → lW x ≤ lWs l
  | y :: l, h => by
    simp only [lWs]
    rcases List.mem_cons.1 h with rfl | h
    · omega
    · have := lW_mem h; omega
theorem lD_mem {x : lens_Lens} : ∀ {l : List lens_Lens}, x ∈ l → lD x ≤ lDs l
  | y :: l, h => by
    simp only [lDs]
    rcases List.mem_cons.1 h with rfl | h
    · omega
    · have := lD_mem h; omega
theorem lWs_len : ∀ l : List lens_Lens, l.length ≤ lWs l
  | [] => by simp
  | x :: l => by have := lW_eq x; have := lWs_len l; simp only [List.length_cons, lWs]; omega
theorem lmanys_le : ∀ l : List lens_Lens, (∀ x ∈ l, lmany x ≤ lW x) → lmanys l ≤ lWs l
  | [], _ => by simp [lmanys]
  | x :: l, h => by
    have h1 := h x (by simp)
    have h2 := lmanys_le l fun y hy => h y (by simp [hy])
    simp only [lmanys, lWs]; omega
theorem lmany_le (l : lens_Lens) : lmany l ≤ lW l := by
  induction l using lens_Lens.ind with
  | h l ih =>
    have := lmanys_le l.Kids ih
    rw [lmany_eq, lW_eq]
    omega

/-! ### How many -/
theorem many_l0 (f : lens_Lens → Option Int) : ∀ (l : List lens_Lens) (i : Int) (n : Nat), (∀ k ∈ l, f k = some (lmany k : Int)) → n + lmanys l ≤ 9223372036854775807 → lens_Lens_many_l0 f l i (n : Int) = some ((n + lmanys l : Nat) : Int)
  | [], i, n, _, _ => by simp [lens_Lens_many_l0, lmanys]
  | x :: l, i, n, h, hb => by
    simp only [lmanys] at hb
    rw [lens_Lens_many_l0, h x (by simp)]
    simp only [Option.bind_some]
    have e : w64 ((n : Int) + (lmany x : Int)) = ((n + lmany x : Nat) : Int) := by rw [w64_eq (by omega)]; omega
    rw [e, many_l0 f l _ _ (fun k hk => h k (by simp [hk])) (by omega)]
    simp only [lmanys, Nat.add_assoc]
theorem many_k (l : lens_Lens) : lW l ≤ 1099511627776 → ∀ kr, lD l ≤ kr → lens_Lens_many_k kr l = some (lmany l : Int) := by
  induction l using lens_Lens.ind with
  | h l ih =>
    intro hw kr hk
    have hd := lD_eq l
    have hwt := lW_eq l
    have hl := lWs_len l.Kids
    have hm := lmanys_le l.Kids fun x _ => lmany_le x
    obtain ⟨kr, rfl⟩ : ∃ j, kr = j + 1 := ⟨kr - 1, by omega⟩
    have h1 : ((1 : Nat) : Int) = 1 := rfl
    rw [lens_Lens_many_k, chk_eq (by omega), ← h1, many_l0 _ l.Kids 0 1 (fun k hkk => ih k hkk (by have := lW_mem hkk; omega) kr (by have := lD_mem hkk; omega)) (by omega), lmany_eq]
    rfl
theorem many_eq (l : lens_Lens) (h : lW l ≤ 1099511627776) : lens_Lens_many l = some (lmany l : Int) := by
  unfold lens_Lens_many
  exact lim_of (lD l) fun kr hk => many_k l h kr hk

/-! ### Turned -/
def turnP (p : lens_Prim) : lens_Prim :=
  if p.Op = 114 then { p with Kind := p.New, New := p.Kind }
  else if p.Op = 109 ∨ p.Op = 110 then { p with Name := p.New, New := p.Name }
  else if p.Op = 116 then { p with Values := p.To, To := p.Values }
  else if p.Op = 97 then { p with Op := 100 }
  else if p.Op = 100 then { p with Op := 97 }
  else if p.Op = 119 then { p with Op := 117 }
  else if p.Op = 117 then { p with Op := 119 }
  else if p.Op = 104 then { p with Op := 115 }
  else if p.Op = 115 then { p with Op := 104 }
  else p
theorem turn_eq (p : lens_Prim) : lens_Turn p = some (turnP p) := by
  unfold lens_Turn turnP
  by_cases h1 : p.Op = 114
  · simp [h1]
  by_cases h2 : p.Op = 109
  · simp [h2]
  by_cases h3 : p.Op = 110
  · simp [h3]
  by_cases h4 : p.Op = 116
  · simp [h4]
  by_cases h5 : p.Op = 97
  · simp [h5]
  by_cases h6 : p.Op = 100
  · simp [h6]
  by_cases h7 : p.Op = 119
  · simp [h7]
  by_cases h8 : p.Op = 117
  · simp [h8]
  by_cases h9 : p.Op = 104
  · simp [h9]
  by_cases h10 : p.Op = 115
  · simp [h10]
  simp [h1, h2, h3, h4, h5, h6, h7, h8, h9, h10]
theorem turn_turn (p : lens_Prim) : turnP (turnP p) = p := by
  obtain ⟨op, k, n, w, v, t⟩ := p
  by_cases h1 : op = 114
  · simp [turnP, h1]
  by_cases h2 : op = 109
  · simp [turnP, h2]
  by_cases h3 : op = 110
  · simp [turnP, h3]
  by_cases h4 : op = 116
  · simp [turnP, h4]
  by_cases h5 : op = 97
  · simp [turnP, h5]
  by_cases h6 : op = 100
  · simp [turnP, h6]
  by_cases h7 : op = 119
  · simp [turnP, h7]
  by_cases h8 : op = 117
  · simp [turnP, h8]
  by_cases h9 : op = 104
  · simp [turnP, h9]
  by_cases h10 : op = 115
  · simp [turnP, h10]
  simp [turnP, h1, h2, h3, h4, h5, h6, h7, h8, h9, h10]

/-! ### Rows turned round, in place -/
theorem two_ends {α : Type} : ∀ (l : List α), l = [] ∨ (∃ x, l = [x]) ∨ ∃ x m y, l = x :: (m ++ [y])
  | [] => .inl rfl
  | [x] => .inr (.inl ⟨x, rfl⟩)
  | x :: y :: l => by
    rcases snoc_cases (y :: l) with h | ⟨m, z, h⟩
    · cases h
    · exact .inr (.inr ⟨x, m, z, by rw [h]⟩)
theorem wr_mid {α : Type} (p s : List α) (x y : α) : wr (p ++ x :: s) (p.length : Int) y = some (p ++ y :: s) := by
  have h : (0 : Int) ≤ (p.length : Int) ∧ (p.length : Int) < ((p ++ x :: s).length : Int) := by simp; omega
  unfold wr
  rw [if_pos h]
  simp
theorem lrev_l0 : ∀ (f : Nat) (k : Nat) (pre mid post : List lens_Prim), mid.length ≤ f → f < k → pre.length = post.length → (pre ++ mid ++ post).length ≤ 1099511627776 →
    slices_Reverse_lens_Prim_x_l0 k (pre.length : Int) ((pre.length : Int) + mid.length - 1) (pre ++ mid ++ post) = some (pre ++ mid.reverse ++ post)
  | f, 0, _, _, _, _, h, _, _ => by omega
  | f, k + 1, pre, mid, post, hf, hk, hl, hb => by
    rcases two_ends mid with rfl | ⟨x, rfl⟩ | ⟨x, m, y, rfl⟩
    · have g : decide ((pre.length : Int) < (pre.length : Int) + (([] : List lens_Prim).length : Int) - 1) = false := by simp; omega
      rw [slices_Reverse_lens_Prim_x_l0, g]
      simp
    · have g : decide ((pre.length : Int) < (pre.length : Int) + (([x] : List lens_Prim).length : Int) - 1) = false := by simp
      rw [slices_Reverse_lens_Prim_x_l0, g]
      simp
    · have hm : (x :: (m ++ [y])).length = m.length + 2 := by simp
      have g : decide ((pre.length : Int) < (pre.length : Int) + ((x :: (m ++ [y])).length : Int) - 1) = true := by rw [hm]; simp; omega
      have ej : (pre.length : Int) + ((x :: (m ++ [y])).length : Int) - 1 = ((pre ++ x :: m).length : Int) := by rw [hm]; simp; omega
      have ej2 : (pre.length : Int) + ((x :: (m ++ [y])).length : Int) - 1 = ((pre ++ y :: m).length : Int) := by rw [hm]; simp; omega
      have s0 : pre ++ x :: (m ++ [y]) ++ post = (pre ++ x :: m) ++ y :: post := by simp
      have s0' : pre ++ x :: (m ++ [y]) ++ post = pre ++ x :: (m ++ [y] ++ post) := by simp
      have s1 : pre ++ y :: (m ++ [y] ++ post) = (pre ++ y :: m) ++ y :: post := by simp
      have r1 : rd (pre ++ x :: (m ++ [y]) ++ post) ((pre.length : Int) + ((x :: (m ++ [y])).length : Int) - 1) = some y := by rw [ej, s0]; exact rd_mid _ _ _
      have r2 : rd (pre ++ x :: (m ++ [y]) ++ post) (pre.length : Int) = some x := by rw [s0']; exact rd_mid _ _ _
      have w1 : wr (pre ++ x :: (m ++ [y]) ++ post) (pre.length : Int) y = some (pre ++ y :: (m ++ [y] ++ post)) := by rw [s0']; exact wr_mid _ _ _ _
      have r3 : rd (pre ++ y :: (m ++ [y] ++ post)) ((pre.length : Int) + ((x :: (m ++ [y])).length : Int) - 1) = some y := by rw [ej2, s1]; exact rd_mid _ _ _
      have w2 : wr (pre ++ y :: (m ++ [y] ++ post)) ((pre.length : Int) + ((x :: (m ++ [y])).length : Int) - 1) x = some ((pre ++ y :: m) ++ x :: post) := by rw [ej2, s1]; exact wr_mid _ _ _ _
      have hlb : (pre ++ x :: (m ++ [y]) ++ post).length = pre.length + m.length + post.length + 2 := by simp; omega
      rw [slices_Reverse_lens_Prim_x_l0, g]
      simp only [if_true]
      rw [r1]
      simp only [Option.bind_some]
      rw [r2]
      simp only [Option.bind_some]
      rw [w1]
      simp only [Option.bind_some]
      rw [r3]
      simp only [Option.bind_some]
      rw [w2]
      simp only [Option.bind_some]
      rw [hlb] at hb
      rw [w64_eq (by omega), w64_eq (by rw [hm]; omega)]
      have ih := lrev_l0 m.length k (pre ++ [y]) m (x :: post) (Nat.le_refl _) (by rw [hm] at hf; omega) (by simp; omega) (by simp; omega)
      have e1 : ((pre ++ [y]).length : Int) = (pre.length : Int) + 1 := by simp
      have e2 : ((pre ++ [y]).length : Int) + (m.length : Int) - 1 = (pre.length : Int) + ((x :: (m ++ [y])).length : Int) - 1 - 1 := by rw [hm]; simp; omega
      rw [e2, e1] at ih
      have e3 : (pre ++ y :: m) ++ x :: post = pre ++ [y] ++ m ++ x :: post := by simp
      rw [e3, ih]
      simp
theorem lrev_eq (l : List lens_Prim) (h : l.length ≤ 1099511627776) : slices_Reverse_lens_Prim_x l = some l.reverse := by
  unfold slices_Reverse_lens_Prim_x
  have h0 : (lim fun k => slices_Reverse_lens_Prim_x_l0 k 0 (w64 ((l.length : Int) - 1)) l) = some l.reverse := by
    refine lim_of (l.length + 1) fun k hk => ?_
    have := lrev_l0 l.length k [] l [] (Nat.le_refl _) (by omega) rfl (by simpa using h)
    rw [w64_eq (by omega)]
    simpa using this
  rw [h0]
  rfl

/-! ### Flat -/
/-- Turned, the last one first. -/
def rt (l : List lens_Prim) : List lens_Prim := l.reverse.map turnP
theorem rt_rt (l : List lens_Prim) : rt (rt l) = l := by
  unfold rt
  rw [← List.map_reverse, List.reverse_reverse, List.map_map]
  have : turnP ∘ turnP = id := funext turn_turn
  rw [this, List.map_id]
theorem rt_len (l : List lens_Prim) : (rt l).length = l.length := by simp [rt]
mutual
def lflat : lens_Lens → List lens_Prim
  | ⟨p, t, ks⟩ => if p.Op = 0 then (if t = true then rt (lflats ks) else lflats ks) else [p]
def lflats : List lens_Lens → List lens_Prim
  | [] => []
  | l :: r => lflat l ++ lflats r
end
theorem lflat_eq (l : lens_Lens) : lflat l = if l.Prim.Op = 0 then (if l.Turned = true then rt (lflats l.Kids) else lflats l.Kids) else [l.Prim] := by cases l; simp only [lflat]
theorem lflats_len : ∀ (l : List lens_Lens), (∀ x ∈ l, (lflat x).length ≤ lmany x) → (lflats l).length ≤ lmanys l
  | [], _ => by simp [lflats]
  | x :: l, h => by
    have h1 := h x (by simp)
    have h2 := lflats_len l fun y hy => h y (by simp [hy])
    simp only [lflats, lmanys, List.length_append]; omega
theorem lflat_len (l : lens_Lens) : (lflat l).length ≤ lmany l := by
  induction l using lens_Lens.ind with
  | h l ih =>
    have := lflats_len l.Kids ih
    rw [lflat_eq, lmany_eq]
    split
    · split
      · rw [rt_len]; omega
      · omega
    · simp
theorem flat_l0 (f : lens_Lens → Option (List lens_Prim)) : ∀ (l : List lens_Lens) (i : Int) (out : List lens_Prim), (∀ k ∈ l, f k = some (lflat k)) → out.length + lmanys l ≤ 1099511627776 → lens_Flat_l0 f l i out = some (out ++ lflats l)
  | [], i, out, _, _ => by simp [lens_Flat_l0, lflats]
  | x :: l, i, out, h, hb => by
    simp only [lmanys] at hb
    have hx := lflat_len x
    rw [lens_Flat_l0, h x (by simp)]
    simp only [Option.bind_some]
    rw [app_eq (by omega)]
    simp only [Option.bind_some]
    rw [flat_l0 f l _ _ (fun k hk => h k (by simp [hk])) (by rw [List.length_append]; omega)]
    simp only [lflats, List.append_assoc]
theorem flat_l1 (L : List lens_Prim) (hL : L.length ≤ 1099511627776) : ∀ (suf pre : List lens_Prim) (k : Nat), pre.length + suf.length = L.length → suf.length < k → lens_Flat_l1 L k (pre.length : Int) (pre ++ suf) = some (pre ++ suf.map turnP)
  | [], pre, k, hl, hk => by
    obtain ⟨k, rfl⟩ : ∃ j, k = j + 1 := ⟨k - 1, by simp at hk; omega⟩
    have g : decide ((pre.length : Int) < (L.length : Int)) = false := by simp at hl; simp; omega
    rw [lens_Flat_l1, g]
    simp
  | x :: suf, pre, k, hl, hk => by
    obtain ⟨k, rfl⟩ : ∃ j, k = j + 1 := ⟨k - 1, by omega⟩
    simp only [List.length_cons] at hl hk
    have g : decide ((pre.length : Int) < (L.length : Int)) = true := by simp; omega
    rw [lens_Flat_l1, g]
    simp only [if_true]
    rw [rd_mid, Option.bind_some, turn_eq, Option.bind_some, wr_mid, Option.bind_some]
    have e : w64 ((pre.length : Int) + 1) = ((pre ++ [turnP x]).length : Int) := by rw [w64_eq (by omega)]; simp
    have ih := flat_l1 L hL suf (pre ++ [turnP x]) k (by simp; omega) (by omega)
    rw [e]
    simpa using ih
theorem flat_k (l : lens_Lens) : lW l ≤ 1073741824 → ∀ kr, lD l ≤ kr → lens_Flat_k kr l = some (lflat l) := by
  induction l using lens_Lens.ind with
  | h l ih =>
    intro hw kr hk
    have hd := lD_eq l
    have hwt := lW_eq l
    have hl := lWs_len l.Kids
    have hm := lmanys_le l.Kids fun x _ => lmany_le x
    have hf := lflats_len l.Kids fun x _ => lflat_len x
    obtain ⟨kr, rfl⟩ : ∃ j, kr = j + 1 := ⟨kr - 1, by omega⟩
    rw [lens_Flat_k, lflat_eq]
    by_cases h0 : l.Prim.Op = 0
    · rw [if_neg (by simp [h0]), if_pos h0, chk_eq (by omega), flat_l0 _ l.Kids 0 [] (fun k hkk => ih k hkk (by have := lW_mem hkk; omega) kr (by have := lD_mem hkk; omega)) (by simp; omega)]
      simp only [Option.bind_some, List.nil_append]
      by_cases ht : l.Turned = true
      · rw [if_pos ht, if_pos ht, lrev_eq _ (by omega)]
        simp only [Option.bind_some]
        rw [chk_eq (by simp)]
        have h1 : (lim fun k => lens_Flat_l1 (lflats l.Kids).reverse k 0 (lflats l.Kids).reverse) = some (rt (lflats l.Kids)) := by
          refine lim_of ((lflats l.Kids).length + 1) fun k hk => ?_
          have := flat_l1 (lflats l.Kids).reverse (by simp; omega) (lflats l.Kids).reverse [] k (by simp) (by simp; omega)
          simpa [rt] using this
        rw [h1]
        rfl
      · rw [if_neg ht, if_neg ht]
    · rw [if_pos (by simpa using h0), if_neg h0]
theorem flat_eq (l : lens_Lens) (h : lW l ≤ 1073741824) : lens_Flat l = some (lflat l) := by
  unfold lens_Flat
  exact lim_of (lD l) fun kr hk => flat_k l h kr hk

/-! ### Inverted -/
abbrev nilP : lens_Prim := ⟨0, [], [], [], [], []⟩
def linv (l : lens_Lens) : lens_Lens :=
  if l.Prim.Op = 0 then (if l.Turned = true then (match l.Kids with
    | [k] => k
    | ks => ⟨nilP, false, ks⟩) else ⟨nilP, true, l.Kids⟩) else ⟨nilP, true, [l]⟩
theorem lclone_eq (l : List lens_Lens) (h : l.length ≤ 1073741824) : slices_Clone_lens_Lens l = some l := by
  unfold slices_Clone_lens_Lens
  rw [app_eq (by simp; omega)]
  rfl
theorem invert_eq (l : lens_Lens) (h : lW l ≤ 1073741824) : lens_Invert l = some (linv l) := by
  have hwt := lW_eq l
  have hl := lWs_len l.Kids
  unfold lens_Invert linv
  by_cases h0 : l.Prim.Op = 0
  · rw [if_neg (by simp [h0]), if_pos h0, lclone_eq _ (by omega)]
    by_cases ht : l.Turned = true
    · rw [if_pos ht, if_pos ht]
      match hk : l.Kids with
      | [] => rfl
      | [k] => rfl
      | a :: b :: ks =>
        have g : (((a :: b :: ks).length : Int) == 1) = false := by simp; omega
        rw [g]
        rfl
    · rw [if_neg ht, if_neg ht]
      rfl
  · rw [if_pos (by simpa using h0), if_neg h0]
theorem linv_w (l : lens_Lens) : lW (linv l) ≤ 1 + lW l := by
  have hwt := lW_eq l
  unfold linv
  split
  · split
    · split
      · rename_i k hk
        rw [hk] at hwt
        simp only [lWs] at hwt
        omega
      · simp only [lW, pW, strsW, List.length_nil]; omega
    · simp only [lW, pW, strsW, List.length_nil]; omega
  · simp only [lW, lWs, pW, strsW, List.length_nil]; omega
theorem flat_inv (l : lens_Lens) : lflat (linv l) = rt (lflat l) := by
  rw [lflat_eq l]
  unfold linv
  by_cases h0 : l.Prim.Op = 0
  · rw [if_pos h0, if_pos h0]
    by_cases ht : l.Turned = true
    · rw [if_pos ht, if_pos ht, rt_rt]
      split
      · rename_i k hk
        rw [hk]
        simp [lflats]
      · rw [lflat_eq]
        simp
    · rw [if_neg ht, if_neg ht, lflat_eq]
      simp
  · rw [if_neg h0, if_neg h0, lflat_eq, if_pos rfl, if_pos rfl]
    have : lflat l = [l.Prim] := by rw [lflat_eq, if_neg h0]
    simp [lflats, this]

end Go.Proofs.YtpjdafhmneiohaaDoor
