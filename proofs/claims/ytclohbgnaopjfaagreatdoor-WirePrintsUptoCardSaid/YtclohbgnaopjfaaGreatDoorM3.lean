/- Texts merged into one: Tells, RSame, RSameT, Wts, StepWts, Light, JoinForm, RJoin, RName, RDepth, Utf, RefForm, RQuote, RWrite, RPrintN, RStepRight, RWire, WirePrintsL. -/
import Derived.Test.YtclohbgnaopjfaaGreatDoorM1
import Derived.Test.YtclohbgnaopjfaaGreatDoorAwR
import Derived.Lib.MapLaws
import Derived.Lib.ValidLaws
import Derived.Test.YtclohbgnaopjfaaGreatDoorM2

/- What is told by an answer. -/
namespace Go.Proofs.YtclohbgnaopjfaaGreatDoor
set_option linter.unusedSimpArgs false
set_option linter.unusedVariables false
open Go

/-- A yes that says just so much. -/
def Tells (x : Option Bool) (p : Prop) : Prop := ∃ b, x = some b ∧ (b = true ↔ p)
theorem Tells.yes {x : Option Bool} {p : Prop} (h : Tells x p) (hp : p) : x = some true := by
  obtain ⟨b, rfl, hb⟩ := h
  rw [hb.2 hp]
theorem Tells.no {x : Option Bool} {p : Prop} (h : Tells x p) (hp : ¬ p) : x = some false := by
  obtain ⟨b, rfl, hb⟩ := h
  cases b with
  | false => rfl
  | true => exact (hp (hb.1 rfl)).elim
end Go.Proofs.YtclohbgnaopjfaaGreatDoor

/- What is the same as itself: the reference's answer. -/
namespace Go.Proofs.YtclohbgnaopjfaaGreatDoor
set_option linter.unusedSimpArgs false
set_option linter.unusedVariables false
open Go

theorem rsame_l0 (b : api_Node) : ∀ (suf pre : List api_Attr) (i : Int), i = (pre.length : Int) → b.Attrs = pre ++ suf → diptychref1_Same_l0 b suf i = some (.inr ())
  | [], pre, i, _, _ => rfl
  | y :: suf, pre, i, hi, hb => by
    have hr : rd b.Attrs i = some y := by rw [hb, hi]; exact rd_mid pre suf y
    rw [diptychref1_Same_l0, hr]
    have ih := rsame_l0 b suf (pre ++ [y]) (i + 1) (by rw [hi]; simp) (by rw [hb]; simp)
    simp [ih]
theorem rsameAll_l0 (f : api_Node → api_Node → Option Bool) : ∀ (suf pre : List api_Node) (i : Int), i = (pre.length : Int) → (∀ k ∈ suf, f k k = some true) → diptychref1_SameAll_l0 (pre ++ suf) f suf i = some (.inr ())
  | [], pre, i, _, _ => rfl
  | y :: suf, pre, i, hi, hf => by
    have hr : rd (pre ++ y :: suf) i = some y := by rw [hi]; exact rd_mid pre suf y
    have ih := rsameAll_l0 f suf (pre ++ [y]) (i + 1) (by rw [hi]; simp) fun k hk => hf k (by simp [hk])
    rw [List.append_assoc, List.singleton_append] at ih
    rw [diptychref1_SameAll_l0, hr]
    simp only [Option.bind_some]
    rw [hf y (by simp)]
    simp [ih]
theorem rsame_k (n : api_Node) : nwt n ≤ 1099511627776 → ∀ kr, 2 * ndep n ≤ kr → diptychref1_Same_k kr n n = some true := by
  induction n using api_Node.ind with
  | h n ih =>
    intro hw kr hk
    have hd := ndep_eq n
    obtain ⟨kr, rfl⟩ : ∃ j, kr = j + 1 + 1 := ⟨kr - 2, by omega⟩
    have hwt := nwt_eq n
    have hl := nwts_len n.Kids
    have hm := strsW_n n.Marks
    have ha := attrsW_n n.Attrs
    have h1 := rsame_l0 n n.Attrs [] 0 rfl rfl
    have h2 := rsameAll_l0 (diptychref1_Same_k kr) n.Kids [] 0 rfl fun k hkk => ih k hkk (by have := nwt_mem hkk; omega) kr (by have := ndep_mem hkk; omega)
    rw [List.nil_append] at h2
    rw [diptychref1_Same_k]
    simp only [beq_self_eq_true, Bool.not_true, Bool.false_eq_true, if_false]
    rw [sameNames_eq _ _ (by omega)]
    simp only [decide_true, Option.bind_some, Bool.not_true, Bool.false_eq_true, if_false, bne_self_eq_false]
    rw [chk_eq (by omega), h1]
    simp only [Option.bind_some]
    rw [diptychref1_SameAll_k]
    simp only [bne_self_eq_false, Bool.false_eq_true, if_false]
    rw [chk_eq (by omega), h2]
    rfl
theorem rsameAll_eq (l : List api_Node) (h : nwts l ≤ 1099511627776) : diptychref1_SameAll l l = some true := by
  unfold diptychref1_SameAll
  refine lim_of (2 * ndeps l + 1) fun kr hk => ?_
  obtain ⟨kr, rfl⟩ : ∃ j, kr = j + 1 := ⟨kr - 1, by omega⟩
  have hl := nwts_len l
  have h2 := rsameAll_l0 (diptychref1_Same_k kr) l [] 0 rfl fun k hkk => rsame_k k (by have := nwt_mem hkk; omega) kr (by have := ndep_mem hkk; omega)
  rw [List.nil_append] at h2
  rw [diptychref1_SameAll_k]
  simp only [bne_self_eq_false, Bool.false_eq_true, if_false]
  rw [chk_eq (by omega), h2]
  rfl
theorem rsame_eq (n : api_Node) (h : nwt n ≤ 1099511627776) : diptychref1_Same n n = some true := by
  unfold diptychref1_Same
  exact lim_of (2 * ndep n) fun k hk => rsame_k n h k hk

end Go.Proofs.YtclohbgnaopjfaaGreatDoor

/- When two nodes are the same, plainly: the reference's answer. -/
namespace Go.Proofs.YtclohbgnaopjfaaGreatDoor
set_option linter.unusedSimpArgs false
set_option linter.unusedVariables false
open Go

theorem req_l0 (b : api_Node) : ∀ (suf pre tb pb : List api_Attr) (i : Int), i = (pre.length : Int) → b.Attrs = pb ++ tb → pb.length = pre.length → suf.length = tb.length → diptychref1_Same_l0 b suf i = some (if suf = tb then .inr () else .inl false)
  | [], pre, tb, pb, i, hi, hb, hl, hs => by
    have : tb = [] := List.eq_nil_of_length_eq_zero (by simpa using hs.symm)
    subst this
    simp [diptychref1_Same_l0]
  | y :: suf, pre, [], pb, i, hi, hb, hl, hs => by simp at hs
  | y :: suf, pre, x :: tb, pb, i, hi, hb, hl, hs => by
    simp only [List.length_cons] at hs
    have hx : rd b.Attrs (pre.length : Int) = some x := by rw [hb, ← hl]; exact rd_mid _ _ _
    rw [diptychref1_Same_l0, hi, hx]
    simp only [Option.bind_some]
    by_cases e : y = x
    · subst e
      simp only [beq_self_eq_true, Bool.and_self, bne_self_eq_false, Bool.false_eq_true, if_false]
      rw [req_l0 b suf (pre ++ [y]) tb (pb ++ [y]) _ (by simp) (by simp [hb]) (by simp [hl]) (by omega)]
      simp
    · have g : (((y.Name == x.Name) && (y.Value == x.Value)) != true) = true := by
        rw [bne_iff_ne, ne_eq, Bool.and_eq_true, beq_iff_eq, beq_iff_eq]
        rintro ⟨h1, h2⟩
        apply e
        cases y; cases x
        simp_all
      rw [if_pos g, if_neg (by simp [e])]
theorem rqn_l0 (f : api_Node → api_Node → Option Bool) (b : List api_Node) : ∀ (suf pre : List api_Node) (i : Int), i = (pre.length : Int) → b.length = pre.length + suf.length → b.take pre.length = pre → (∀ x ∈ suf, ∀ y, Tells (f x y) (x = y)) → ∃ r, diptychref1_SameAll_l0 b f suf i = some r ∧ ((r = .inr () ∧ pre ++ suf = b) ∨ (r = .inl false ∧ pre ++ suf ≠ b))
  | [], pre, i, hi, hl, ht, _ => by
    have : pre = b := by
      rw [← ht, List.take_of_length_le]
      simp at hl; omega
    exact ⟨_, rfl, .inl ⟨rfl, by simp [this]⟩⟩
  | y :: suf, pre, i, hi, hl, ht, hf => by
    simp only [List.length_cons] at hl
    obtain ⟨x, hx⟩ : ∃ x, b[pre.length]? = some x := ⟨b[pre.length], List.getElem?_eq_getElem (by omega)⟩
    rw [diptychref1_SameAll_l0, hi, rd_nat hx]
    simp only [Option.bind_some]
    have htk : b.take (pre.length + 1) = pre ++ [x] := by
      rw [List.take_add_one, ht, hx]
      rfl
    by_cases hxy : y = x
    · subst hxy
      rw [(hf y (by simp) y).yes rfl]
      simp only [Option.bind_some, Bool.not_true, Bool.false_eq_true, if_false]
      obtain ⟨r, h1, h2⟩ := rqn_l0 f b suf (pre ++ [y]) ((pre.length : Int) + 1) (by simp) (by simp; omega) (by simpa using htk) fun z hz => hf z (by simp [hz])
      exact ⟨r, h1, by simpa using h2⟩
    · have hn : ¬ pre ++ y :: suf = b := by
        intro h
        rw [← h] at hx
        simp at hx
        exact hxy hx
      rw [(hf y (by simp) x).no hxy]
      exact ⟨_, rfl, .inr ⟨rfl, hn⟩⟩
theorem rsame_kt (n : api_Node) : nwt n ≤ 1099511627776 → ∀ kr, 2 * ndep n ≤ kr → ∀ m, Tells (diptychref1_Same_k kr n m) (n = m) := by
  induction n using api_Node.ind with
  | h n ih =>
    intro hw kr hk m
    have hd := ndep_eq n
    obtain ⟨kr, rfl⟩ : ∃ j, kr = j + 1 + 1 := ⟨kr - 2, by omega⟩
    have hwt := nwt_eq n
    have hl := nwts_len n.Kids
    have hs := strsW_n n.Marks
    have ha := attrsW_n n.Attrs
    have key : n = m ↔ n.Kind = m.Kind ∧ n.Text = m.Text ∧ n.Marks = m.Marks ∧ n.Attrs = m.Attrs ∧ n.Kids = m.Kids := by
      cases n; cases m; simp
    rw [diptychref1_Same_k]
    by_cases h1 : n.Kind = m.Kind
    · rw [if_neg (by simp [h1])]
      by_cases h2 : n.Text = m.Text
      · rw [if_neg (by simp [h2]), sameNames_eq _ _ (by omega)]
        simp only [Option.bind_some]
        by_cases h3 : n.Marks = m.Marks
        · rw [if_neg (by simp [h3])]
          by_cases hal : n.Attrs.length = m.Attrs.length
          · rw [if_neg (by simp [hal]), chk_eq (by omega), req_l0 m n.Attrs [] m.Attrs [] 0 rfl rfl rfl hal]
            by_cases h4 : n.Attrs = m.Attrs
            · rw [if_pos h4]
              simp only [Option.bind_some]
              rw [diptychref1_SameAll_k]
              by_cases hkl : n.Kids.length = m.Kids.length
              · rw [if_neg (by simp [hkl])]
                obtain ⟨r, e5, h5⟩ := rqn_l0 (diptychref1_Same_k kr) m.Kids n.Kids [] 0 rfl (by simp [hkl]) (by simp) fun k hkk y => ih k hkk (by have := nwt_mem hkk; omega) kr (by have := ndep_mem hkk; omega) y
                rw [chk_eq (by omega), e5]
                simp only [List.nil_append] at h5
                rcases h5 with ⟨rfl, h5⟩ | ⟨rfl, h5⟩
                · exact ⟨true, rfl, by simp [key, h1, h2, h3, h4, h5]⟩
                · exact ⟨false, rfl, by simp [key, h5]⟩
              · have g : ((n.Kids.length : Int) != (m.Kids.length : Int)) = true := by simp; omega
                rw [if_pos g]
                exact ⟨false, rfl, by
                  simp only [Bool.false_eq_true, false_iff]
                  rintro rfl
                  exact hkl rfl⟩
            · rw [if_neg h4]
              exact ⟨false, rfl, by simp [key, h4]⟩
          · have g : ((n.Attrs.length : Int) != (m.Attrs.length : Int)) = true := by simp; omega
            rw [if_pos g]
            exact ⟨false, rfl, by
              simp only [Bool.false_eq_true, false_iff]
              rintro rfl
              exact hal rfl⟩
        · rw [if_pos (by simp [h3])]
          exact ⟨false, rfl, by simp [key, h3]⟩
      · rw [if_pos (by simp [h2])]
        exact ⟨false, rfl, by simp [key, h2]⟩
    · rw [if_pos (by simp [h1])]
      exact ⟨false, rfl, by simp [key, h1]⟩
theorem rsame_tells (n m : api_Node) (h : nwt n ≤ 1099511627776) : Tells (diptychref1_Same n m) (n = m) := by
  by_cases e : n = m
  · refine ⟨true, ?_, by simp [e]⟩
    unfold diptychref1_Same
    exact lim_of (2 * ndep n) fun k hk => (rsame_kt n h k hk m).yes e
  · refine ⟨false, ?_, by simp [e]⟩
    unfold diptychref1_Same
    exact lim_of (2 * ndep n) fun k hk => (rsame_kt n h k hk m).no e

theorem rsameAll_tells (l m : List api_Node) (h : nwts l ≤ 1099511627776) : Tells (diptychref1_SameAll l m) (l = m) := by
  have key : ∀ kr, 2 * ndeps l ≤ kr → Tells (diptychref1_SameAll_k (kr + 1) l m) (l = m) := by
    intro kr hk
    have hl := nwts_len l
    rw [diptychref1_SameAll_k]
    by_cases he : l.length = m.length
    · rw [if_neg (by simp [he]), chk_eq (by omega)]
      obtain ⟨r, h1, h2⟩ := rqn_l0 (diptychref1_Same_k kr) m l [] 0 rfl (by simp [he]) (by simp) (fun x hx y => rsame_kt x (by have := nwt_mem hx; omega) kr (by have := ndep_mem hx; omega) y)
      rw [h1]
      rcases h2 with ⟨rfl, h3⟩ | ⟨rfl, h3⟩
      · exact ⟨true, rfl, by simpa using h3⟩
      · exact ⟨false, rfl, by simpa using h3⟩
    · rw [if_pos (by simp; omega)]
      exact ⟨false, rfl, by
        simp only [Bool.false_eq_true, false_iff]
        rintro rfl
        exact he rfl⟩
  by_cases e : l = m
  · refine ⟨true, ?_, by simp [e]⟩
    unfold diptychref1_SameAll
    refine lim_of (2 * ndeps l + 1) fun k hk => ?_
    obtain ⟨k, rfl⟩ : ∃ j, k = j + 1 := ⟨k - 1, by omega⟩
    exact (key k (by omega)).yes e
  · refine ⟨false, ?_, by simp [e]⟩
    unfold diptychref1_SameAll
    refine lim_of (2 * ndeps l + 1) fun k hk => ?_
    obtain ⟨k, rfl⟩ : ∃ j, k = j + 1 := ⟨k - 1, by omega⟩
    exact (key k (by omega)).no e

end Go.Proofs.YtclohbgnaopjfaaGreatDoor

/- Weights of nodes, as arguments. -/
namespace Go.Proofs.YtclohbgnaopjfaaGreatDoor
set_option linter.unusedSimpArgs false
set_option linter.unusedVariables false
open Go

/-! ### Weights of arguments -/
theorem pvWs_strs (l : List Str) : pvWs (l.map PV.str) = strsW l := by
  induction l with
  | nil => rfl
  | cons s l ih => simp only [List.map_cons, pvWs, pvW, strsW, ih]; omega
theorem pvWs_attrs (l : List api_Attr) : attrsW l ≤ pvWs (l.map api_Attr.pv) := by
  induction l with
  | nil => simp [attrsW]
  | cons a l ih => simp only [List.map_cons, pvWs, pvW, attrsW, api_Attr.pv_eq]; omega
theorem nwt_pv (n : api_Node) : nwt n ≤ pvW n.pv := by
  have hl : ∀ l : List api_Node, (∀ k ∈ l, nwt k ≤ pvW k.pv) → nwts l ≤ pvWs (l.map api_Node.pv) := by
    intro l
    induction l with
    | nil => intro _; simp [nwts]
    | cons k l ih =>
      intro h
      have h1 := h k (by simp)
      have h2 := ih fun x hx => h x (by simp [hx])
      simp only [nwts, List.map_cons, pvWs]; omega
  induction n using api_Node.ind with
  | h n ih =>
    have h1 := hl n.Kids ih
    have h2 := nwt_eq n
    have h3 := pvWs_strs n.Marks
    have h4 := pvWs_attrs n.Attrs
    rw [api_Node.pv_eq]
    simp only [pvW, pvWs, h3]
    omega

end Go.Proofs.YtclohbgnaopjfaaGreatDoor

/- Weights of steps, as arguments. -/
namespace Go.Proofs.YtclohbgnaopjfaaGreatDoor
set_option linter.unusedSimpArgs false
set_option linter.unusedVariables false
open Go

theorem nwts_pv (l : List api_Node) : nwts l ≤ pvWs (l.map api_Node.pv) := by
  induction l with
  | nil => simp [nwts]
  | cons k l ih => 
    have := nwt_pv k
    simp only [nwts, List.map_cons, pvWs]; omega
theorem step_w {s : step_Step} {k : Nat} (h : pvW s.pv ≤ k) : nwts s.Nodes ≤ k ∧ s.Name.length ≤ k ∧ s.Value.length ≤ k := by
  have := nwts_pv s.Nodes
  rw [step_Step.pv_eq] at h
  simp only [pvW, pvWs] at h
  omega

end Go.Proofs.YtclohbgnaopjfaaGreatDoor

/- Can a node be gone through: some number. (diptychlaw12: the law's package.) -/
namespace Go.Proofs.YtclohbgnaopjfaaGreatDoor
set_option linter.unusedSimpArgs false
set_option linter.unusedVariables false
open Go

/-! ### light always answers -/
def lightM : List Str → Int → Int
  | [], x => x
  | y :: l, x => if (decide (x > (0 : Int))) = true then lightM l (w64 ((w64 (x - (1 : Int))) - (y.length : Int))) else x
def lightA : List api_Attr → Int → Int
  | [], x => x
  | y :: l, x => if (decide (x > (0 : Int))) = true then lightA l (w64 ((w64 ((w64 (x - (1 : Int))) - (y.Name.length : Int))) - (y.Value.length : Int))) else x
mutual
def lightN : api_Node → Int → Int
  | ⟨k, t, m, a, ks⟩, x => let y := lightK ks (lightA a (lightM m (w64 ((w64 ((w64 (x - (1 : Int))) - (k.length : Int))) - (t.length : Int))))); if (decide (y < (1 : Int))) = true then -1 else y
def lightK : List api_Node → Int → Int
  | [], x => x
  | n :: l, x => if (decide (x > (0 : Int))) = true then lightK l (lightN n x) else x
end
theorem lightN_eq (n : api_Node) (x : Int) : lightN n x = if (decide (lightK n.Kids (lightA n.Attrs (lightM n.Marks (w64 ((w64 ((w64 (x - (1 : Int))) - (n.Kind.length : Int))) - (n.Text.length : Int))))) < (1 : Int))) = true then -1 else lightK n.Kids (lightA n.Attrs (lightM n.Marks (w64 ((w64 ((w64 (x - (1 : Int))) - (n.Kind.length : Int))) - (n.Text.length : Int))))) := by
  cases n; simp only [lightN]
theorem light_l0 : ∀ (l : List Str) (i x : Int), diptychlaw12_light_l0 l i x = some (lightM l x)
  | [], i, x => rfl
  | y :: l, i, x => by
    rw [diptychlaw12_light_l0, lightM]
    split
    · exact light_l0 l _ _
    · rfl
theorem light_l1 : ∀ (l : List api_Attr) (i x : Int), diptychlaw12_light_l1 l i x = some (lightA l x)
  | [], i, x => rfl
  | y :: l, i, x => by
    rw [diptychlaw12_light_l1, lightA]
    split
    · exact light_l1 l _ _
    · rfl
theorem light_l2 (f : api_Node → Int → Option Int) : ∀ (l : List api_Node) (i x : Int), (∀ k ∈ l, ∀ x, f k x = some (lightN k x)) → diptychlaw12_light_l2 f l i x = some (lightK l x)
  | [], i, x, _ => by rw [diptychlaw12_light_l2, lightK]
  | y :: l, i, x, h => by
    rw [diptychlaw12_light_l2, lightK]
    split
    · rw [h y (by simp)]
      exact light_l2 f l _ _ fun k hk => h k (by simp [hk])
    · rfl
theorem light_k (n : api_Node) : nwt n ≤ 1099511627776 → ∀ kr, ndep n ≤ kr → ∀ x, diptychlaw12_light_k kr n x = some (lightN n x) := by
  induction n using api_Node.ind with
  | h n ih =>
    intro hw kr hk x
    have hd := ndep_eq n
    obtain ⟨kr, rfl⟩ : ∃ j, kr = j + 1 := ⟨kr - 1, by omega⟩
    have hwt := nwt_eq n
    have hl := nwts_len n.Kids
    have hm := strsW_n n.Marks
    have ha := attrsW_n n.Attrs
    rw [diptychlaw12_light_k, chk_eq (by omega), light_l0]
    simp only [Option.bind_some]
    rw [chk_eq (by omega), light_l1]
    simp only [Option.bind_some]
    rw [chk_eq (by omega), light_l2 (diptychlaw12_light_k kr) n.Kids 0 _ (fun k hkk x => ih k hkk (by have := nwt_mem hkk; omega) kr (by have := ndep_mem hkk; omega) x)]
    simp only [Option.bind_some]
    rw [lightN_eq]
    split <;> rfl
theorem light_eq (n : api_Node) (h : nwt n ≤ 1099511627776) (x : Int) : diptychlaw12_light n x = some (lightN n x) := by
  unfold diptychlaw12_light
  exact lim_of (ndep n) fun kr hk => light_k n h kr hk x

end Go.Proofs.YtclohbgnaopjfaaGreatDoor

/- A well formed row is joined. -/
namespace Go.Proofs.YtclohbgnaopjfaaGreatDoor
set_option linter.unusedSimpArgs false
set_option linter.unusedVariables false
open Go

theorem form_full {n : api_Node} (h : formB n = true) : (isT n && n.Text == []) = false := by
  rw [formB_eq] at h
  cases ht : isT n with
  | false => rfl
  | true =>
    rw [ht] at h
    simp only [if_true, Bool.and_eq_true, decide_eq_true_eq] at h
    have := h.1.1.1
    simpa using this
theorem fold_forms : ∀ (l o : List api_Node), formBs o.getLast? l = true → l.foldl joinStep o = o ++ l
  | [], o, _ => by simp
  | n :: l, o, h => by
    rw [formBs_cons, Bool.and_eq_true, Bool.and_eq_true] at h
    obtain ⟨⟨h1, h2⟩, h3⟩ := h
    have hf := form_full h1
    have e : joinStep o n = o ++ [n] := by
      rcases snoc_cases o with rfl | ⟨o, x, rfl⟩
      · rw [joinStep_nil, if_neg (by rw [hf]; simp)]
        rfl
      · have h2' : alikeB x n = false := by simpa using h2
        unfold alikeB at h2'
        have : (isT n && isT x && decide (x.Marks = n.Marks)) = false := by rw [Bool.and_comm (isT n)]; exact h2'
        rw [joinStep_snoc, if_neg (by rw [hf]; simp), if_neg (by rw [this]; simp)]
        simp
    rw [List.foldl_cons, e, fold_forms l _ (by simpa using h3)]
    simp
theorem joinR_form {l : List api_Node} (h : formBs none l = true) : joinR l = l := by
  have := fold_forms l [] h
  simpa [joinR] using this

end Go.Proofs.YtclohbgnaopjfaaGreatDoor

/- The reference's Join joins. -/
namespace Go.Proofs.YtclohbgnaopjfaaGreatDoor
set_option linter.unusedSimpArgs false
set_option linter.unusedVariables false
open Go

theorem join_l0 : ∀ (l : List api_Node) (i : Int) (o : List api_Node), nwts o + nwts l ≤ 1099511627776 → diptychref1_Join_l0 l i o = some (l.foldl joinStep o)
  | [], i, o, _ => by simp [diptychref1_Join_l0]
  | n :: l, i, o, hw => by
    simp only [nwts] at hw
    have hjw := joinStep_wt o n
    have ih := join_l0 l (i + 1) (joinStep o n) (by omega)
    have hol := nwts_len o
    rw [diptychref1_Join_l0, List.foldl_cons]
    have eapp : app 104 o [n] = some (o ++ [n]) := app_eq (by simp; omega)
    rcases snoc_cases o with rfl | ⟨o, x, rfl⟩
    · rw [joinStep_nil] at ih ⊢
      by_cases ht : isT n = true
      · have ht' : (n.Kind == sText) = true := ht
        by_cases he : n.Text = []
        · simp only [ht, he, Bool.true_and, beq_self_eq_true, if_true] at ih ⊢
          simp only [ht', if_true, Option.bind_some]
          exact ih
        · have he' : (n.Text == []) = false := by simp [he]
          simp only [ht, he', Bool.true_and, Bool.false_eq_true, if_false] at ih ⊢
          simp only [ht', he', Bool.false_eq_true, if_true, if_false, Option.bind_some, List.length_nil]
          have hneg : decide (w64 ((0 : Nat) - 1 : Int) ≥ 0) = false := by rw [w64_eq (by omega)]; simp
          simp only [hneg, Bool.false_eq_true, if_false, eapp, Option.bind_some]
          exact ih
      · have ht' : (n.Kind == sText) = false := by simpa [isT] using ht
        have ht2 : isT n = false := by simpa using ht
        simp only [ht2, Bool.false_and, Bool.false_eq_true, if_false] at ih ⊢
        simp only [ht', Bool.false_eq_true, if_false, Option.bind_some, eapp]
        exact ih
    · rw [joinStep_snoc] at ih ⊢
      have hx : rd (o ++ [x]) (w64 (((o ++ [x]).length : Int) - 1)) = some x := by
        rw [w64_eq (by simp at hol ⊢; omega)]
        have : ((o ++ [x]).length : Int) - 1 = (o.length : Int) := by simp
        rw [this]
        exact rd_mid o [] x
      have hsl : sl (o ++ [x]) 0 (w64 (((o ++ [x]).length : Int) - 1)) = some o := by
        rw [w64_eq (by simp at hol ⊢; omega)]
        have : ((o ++ [x]).length : Int) - 1 = (o.length : Int) := by simp
        rw [this]
        exact sl_pre o [x]
      have hpos : decide (w64 (((o ++ [x]).length : Int) - 1) ≥ 0) = true := by
        rw [w64_eq (by simp at hol ⊢; omega)]
        simp
      have hwx : nwt x ≤ nwts (o ++ [x]) := nwt_mem (by simp)
      have hx1 := nwt_eq x
      have hn1 := nwt_eq n
      by_cases ht : isT n = true
      · have ht' : (n.Kind == sText) = true := ht
        by_cases he : n.Text = []
        · simp only [ht, he, Bool.true_and, beq_self_eq_true, if_true] at ih ⊢
          simp only [ht', if_true, Option.bind_some]
          exact ih
        · have he' : (n.Text == []) = false := by simp [he]
          simp only [ht, he', Bool.true_and, Bool.false_eq_true, if_false] at ih ⊢
          simp only [ht', he', Bool.false_eq_true, if_true, if_false, Option.bind_some, hpos, hx]
          by_cases hxt : isT x = true
          · have hxt' : (x.Kind == sText) = true := hxt
            have hml : x.Marks.length ≤ 9223372036854775807 := by
              have : ∀ l : List Str, l.length ≤ strsW l := by
                intro l; induction l with
                | nil => simp
                | cons s l ih => simp [strsW]; omega
              have := this x.Marks
              omega
            simp only [hxt', if_true]
            rw [sameNames_eq _ _ hml]
            simp only [Option.bind_some, hxt, Bool.true_and] at ih ⊢
            by_cases hm : x.Marks = n.Marks
            · simp only [hm, decide_true, if_true] at ih ⊢
              rw [chk_eq (by omega), hsl]
              simp only [Option.bind_some]
              have hol2 := nwts_len (o ++ [x])
              simp only [List.length_append, List.length_cons, List.length_nil] at hol2
              rw [app_eq (by simp; omega)]
              simp only [Option.bind_some, List.nil_append]
              rw [app_eq (by simp; omega)]
              simp only [Option.bind_some]
              exact ih
            · simp only [hm, decide_false, Bool.false_eq_true, if_false] at ih ⊢
              rw [eapp]
              simp only [Option.bind_some, List.append_assoc, List.cons_append, List.nil_append]
              exact ih
          · have hxt' : (x.Kind == sText) = false := by simpa [isT] using hxt
            have hx2 : isT x = false := by simpa using hxt
            simp only [hx2, Bool.false_and, Bool.false_eq_true, if_false] at ih ⊢
            simp only [hxt', Bool.false_eq_true, if_false, eapp, Option.bind_some, List.append_assoc, List.cons_append, List.nil_append]
            exact ih
      · have ht' : (n.Kind == sText) = false := by simpa [isT] using ht
        have ht2 : isT n = false := by simpa using ht
        simp only [ht2, Bool.false_and, Bool.false_eq_true, if_false] at ih ⊢
        simp only [ht', Bool.false_eq_true, if_false, Option.bind_some, eapp, List.append_assoc, List.cons_append, List.nil_append]
        exact ih

theorem join_eq (l : List api_Node) (h : nwts l ≤ 1099511627776) : diptychref1_Join l = some (joinR l) := by
  have hl := nwts_len l
  unfold diptychref1_Join
  rw [chk_eq (by omega), join_l0 l 0 [] (by simpa [nwts] using h)]
  rfl

end Go.Proofs.YtclohbgnaopjfaaGreatDoor

/- The reference's names. -/
namespace Go.Proofs.YtclohbgnaopjfaaGreatDoor
set_option linter.unusedSimpArgs false
set_option linter.unusedVariables false
open Go

theorem rname_l0 (s : Str) (hs : s.length ≤ 4611686018427387904) : ∀ (suf pre : Str) (f : Nat), s = pre ++ suf → suf.length < f → diptychref1_Name_l0 s f (pre.length : Int) = some (sumB (suf.all letter))
  | [], pre, 0, _, h => by simp at h
  | [], pre, f + 1, hk, _ => by
    have g : decide ((pre.length : Int) < (s.length : Int)) = false := by rw [hk]; simp
    rw [diptychref1_Name_l0, g]
    rfl
  | c :: suf, pre, 0, _, h => by simp at h
  | c :: suf, pre, f + 1, hk, hf => by
    have hl : s.length = pre.length + (suf.length + 1) := by rw [hk]; simp
    have g : decide ((pre.length : Int) < (s.length : Int)) = true := by simp; omega
    have e : s.getD (pre.length : Int).toNat 0 = c := by rw [hk]; simp [List.getD]
    have e2 : (pre.length : Int) + 1 = ((pre ++ [c]).length : Int) := by simp
    have ih := rname_l0 s hs suf (pre ++ [c]) f (by rw [hk]; simp) (by simp at hf; omega)
    rw [diptychref1_Name_l0, g]
    simp only [if_true]
    rw [chk_eq (by omega), e]
    by_cases h1 : c.toNat < 97
    · have g1 : decide ((c.toNat : Int) < 97) = true := by simp; omega
      have g2 : letter c = false := by simp [letter]; omega
      simp [g1, g2, sumB]
    · have g1 : decide ((c.toNat : Int) < 97) = false := by simp; omega
      simp only [g1, Bool.false_eq_true, if_false]
      rw [chk_eq (by omega)]
      by_cases h2 : c.toNat > 122
      · have g3 : decide ((c.toNat : Int) > 122) = true := by simp; omega
        have g2 : letter c = false := by simp [letter]; omega
        simp [g3, g2, sumB]
      · have g3 : decide ((c.toNat : Int) > 122) = false := by simp; omega
        have g2 : letter c = true := by simp [letter]; omega
        simp only [g3, Bool.false_eq_true, if_false]
        rw [w64_eq (by omega), e2, ih]
        simp [g2]
theorem rname_eq (s : Str) (hs : s.length ≤ 4611686018427387904) : diptychref1_Name s = some (isName s) := by
  unfold diptychref1_Name
  have h0 : (lim fun k => diptychref1_Name_l0 s k 0) = some (sumB (s.all letter)) := lim_of (s.length + 1) fun k hk => rname_l0 s hs s [] k rfl (by omega)
  rw [h0]
  simp only [Option.bind_some]
  unfold isName
  cases ha : s.all letter with
  | false => simp [sumB]
  | true =>
    simp only [sumB, Bool.true_and]
    by_cases h1 : s = []
    · subst h1; rfl
    · have hp := List.length_pos_iff.2 h1
      have g1 : decide ((s.length : Int) ≥ 1) = true := by simp; omega
      simp only [g1, if_true]
      by_cases h2 : s.length ≤ 8
      · have g2 : decide ((s.length : Int) ≤ 8) = true := by simp; omega
        simp only [g2, if_true, Option.some.injEq]
        rw [Bool.eq_iff_iff]
        simp [h1, h2]
      · have g2 : decide ((s.length : Int) ≤ 8) = false := by simp; omega
        simp [g2, h2]
end Go.Proofs.YtclohbgnaopjfaaGreatDoor

/- The reference's depth. -/
namespace Go.Proofs.YtclohbgnaopjfaaGreatDoor
set_option linter.unusedSimpArgs false
set_option linter.unusedVariables false
open Go

theorem rdepth_l0 (f : api_Node → Option Int) : ∀ (l : List api_Node) (i : Int) (d : Nat), (∀ k ∈ l, f k = some (depN k : Int)) → diptychref1_Depth_l0 f l i (d : Int) = some ((max d (depNs l) : Nat) : Int)
  | [], i, d, _ => by simp [diptychref1_Depth_l0, depNs]
  | n :: l, i, d, h => by
    rw [diptychref1_Depth_l0, h n (by simp)]
    simp only [Option.bind_some]
    have e : (if (depN n : Int) > (d : Int) then (depN n : Int) else (d : Int)) = ((max d (depN n) : Nat) : Int) := by split <;> omega
    rw [e, rdepth_l0 f l _ _ fun k hk => h k (by simp [hk])]
    simp only [depNs, Option.some.injEq]
    omega
theorem rdepth_k (n : api_Node) : nwt n ≤ 1099511627776 → ∀ kr, ndep n ≤ kr → diptychref1_Depth_k kr n = some (depN n : Int) := by
  induction n using api_Node.ind with
  | h n ih =>
    intro hw kr hk
    have hd := ndep_eq n
    obtain ⟨kr, rfl⟩ : ∃ j, kr = j + 1 := ⟨kr - 1, by omega⟩
    have hwt := nwt_eq n
    have hl := nwts_len n.Kids
    have hdl := depN_le n
    have hdw := ndep_le n
    have en : (n.Kind == ([116, 101, 120, 116] : Str)) = isT n := rfl
    rw [diptychref1_Depth_k, en]
    by_cases ht : isT n = true
    · simp [ht, depN_eq n]
    · have e := depN_eq n
      rw [if_neg ht] at e
      simp only [ht, Bool.false_eq_true, if_false]
      have h0 := rdepth_l0 (diptychref1_Depth_k kr) n.Kids 0 0 (fun k hkk => ih k hkk (by have := nwt_mem hkk; omega) kr (by have := ndep_mem hkk; omega))
      have h0' : diptychref1_Depth_l0 (diptychref1_Depth_k kr) n.Kids 0 0 = _ := h0
      rw [chk_eq (by omega), h0']
      simp only [Option.bind_some, Nat.zero_max]
      rw [w64_eq (by omega), e]
      rfl
theorem rdepth_eq (n : api_Node) (h : nwt n ≤ 1099511627776) : diptychref1_Depth n = some (depN n : Int) := by
  unfold diptychref1_Depth
  exact lim_of (ndep n) fun kr hk => rdepth_k n h kr hk
end Go.Proofs.YtclohbgnaopjfaaGreatDoor

/- Texts and their code points: what is decoded and encoded again. -/
namespace Go.Proofs.YtclohbgnaopjfaaGreatDoor
set_option linter.unusedSimpArgs false
set_option linter.unusedVariables false
open Go

/-! ### Code points of a text, one behind the other -/
theorem runesL_gen (s : Str) (g : Value → Int) (hg : ∀ n, g (.int .i32 n) = n) : ∀ (f pos : Nat) (acc : Array Value), (Conv.runesFrom ⟨s.toArray⟩ f pos acc).toList.map g = acc.toList.map g ++ (Conv.runesFrom ⟨s.toArray⟩ f pos #[]).toList.map g
  | 0, pos, acc => by simp [Conv.runesFrom]
  | f + 1, pos, acc => by
    unfold Conv.runesFrom
    split
    · rw [runesL_gen s g hg f _ (acc.push _), runesL_gen s g hg f _ (#[].push _)]
      simp
    · simp
def rn : Nat → Str → List Int
  | 0, _ => []
  | f + 1, s => if s = [] then [] else ((Lib.decodeL s).1 : Int) :: rn f (s.drop (Lib.decodeL s).2)
theorem runes_rn (s : Str) (g : Value → Int) (hg : ∀ n, g (.int .i32 n) = n) : ∀ (f pos : Nat), (Conv.runesFrom ⟨s.toArray⟩ f pos #[]).toList.map g = rn f (s.drop pos)
  | 0, pos => by simp [Conv.runesFrom, rn]
  | f + 1, pos => by
    unfold Conv.runesFrom rn
    have hz : ByteArray.size ⟨s.toArray⟩ = s.length := by simp [ByteArray.size]
    by_cases h : pos < s.length
    · have hne : s.drop pos ≠ [] := by simp; omega
      have hd : Lib.decodeL (s.drop pos) = Utf8.decode ⟨s.toArray⟩ pos := by
        have := Lib.decodeL_drop ⟨s.toArray⟩ pos
        simpa using this
      rw [if_pos (by rw [hz]; exact h), if_neg hne, runesL_gen s g hg, runes_rn s g hg f, hd, List.drop_drop]
      simp [hg]
    · have hne : s.drop pos = [] := by simp; omega
      rw [if_neg (by rw [hz]; exact h), if_pos hne]
      simp
theorem runes_eq (s : Str) : runes s = rn s.length s := by
  unfold runes
  rw [runes_rn s _ (fun _ => rfl)]
  simp

/-- A code point's bytes: the model's, and the library's. -/
def encC (c : Nat) : List UInt8 :=
  if c < 0x80 then [UInt8.ofNat c]
  else if c < 0x800 then [UInt8.ofNat (0xC0 + c / 64), UInt8.ofNat (0x80 + c % 64)]
  else if c < 0x10000 then [UInt8.ofNat (0xE0 + c / 4096), UInt8.ofNat (0x80 + c / 64 % 64), UInt8.ofNat (0x80 + c % 64)]
  else [UInt8.ofNat (0xF0 + c / 262144), UInt8.ofNat (0x80 + c / 4096 % 64), UInt8.ofNat (0x80 + c / 64 % 64), UInt8.ofNat (0x80 + c % 64)]
theorem enc_c (r : Int) : rune1 r = encC (if Utf8.valid r then r.toNat else Utf8.runeError) := by
  unfold rune1 Utf8.encode encC
  generalize (if Utf8.valid r then r.toNat else Utf8.runeError) = c
  dsimp only
  by_cases h1 : c < 0x80
  · rw [if_pos h1, if_pos h1]
  · rw [if_neg h1, if_neg h1]
    by_cases h2 : c < 0x800
    · rw [if_pos h2, if_pos h2]
    · rw [if_neg h2, if_neg h2]
      by_cases h3 : c < 0x10000
      · rw [if_pos h3, if_pos h3]
      · rw [if_neg h3, if_neg h3]
theorem encC_len (c : Nat) : 1 ≤ (encC c).length ∧ (encC c).length ≤ 4 := by
  unfold encC
  split
  · simp
  · split
    · simp
    · split <;> simp
theorem rune1_len (c : Int) : 1 ≤ (rune1 c).length ∧ (rune1 c).length ≤ 4 := by rw [enc_c]; exact encC_len _
theorem rune1_ne (c : Int) : rune1 c ≠ [] := by
  intro h
  have := (rune1_len c).1
  rw [h] at this
  simp at this
theorem va (r : Nat) (h : r < 55296 ∨ 57343 < r) (h' : r ≤ 1114111) : Utf8.valid (r : Int) = true := by
  unfold Utf8.valid
  rw [Bool.or_eq_true]
  rcases h with h | h
  · left; rw [Bool.and_eq_true]
    exact ⟨decide_eq_true (by omega), decide_eq_true (by omega)⟩
  · right; rw [Bool.and_eq_true]
    exact ⟨decide_eq_true (by omega), decide_eq_true (by omega)⟩
theorem vc (r : Nat) (h : 55296 ≤ r) (h' : r ≤ 57343) : Utf8.valid (r : Int) = false := by
  unfold Utf8.valid
  rw [Bool.or_eq_false_iff, Bool.and_eq_false_iff, Bool.and_eq_false_iff]
  exact ⟨.inr (decide_eq_false (by omega)), .inl (decide_eq_false (by omega))⟩
theorem enc_ok (r : Nat) (h : r < 55296 ∨ 57343 < r) (h' : r ≤ 1114111) : rune1 (r : Int) = encC r := by
  rw [enc_c, va r h h']
  rfl
theorem enc_1 (r : Nat) (h : r < 128) : rune1 (r : Int) = [UInt8.ofNat r] := by
  rw [enc_ok r (by omega) (by omega), encC, if_pos h]
theorem enc_2 (r : Nat) (h : 128 ≤ r) (h' : r < 2048) : rune1 (r : Int) = [UInt8.ofNat (192 + r / 64), UInt8.ofNat (128 + r % 64)] := by
  rw [enc_ok r (by omega) (by omega), encC, if_neg (by omega), if_pos h']
theorem enc_3 (r : Nat) (h : 2048 ≤ r) (h' : r < 65536) (hv : r < 55296 ∨ 57343 < r) : rune1 (r : Int) = [UInt8.ofNat (224 + r / 4096), UInt8.ofNat (128 + r / 64 % 64), UInt8.ofNat (128 + r % 64)] := by
  rw [enc_ok r hv (by omega), encC, if_neg (by omega), if_neg (by omega), if_pos h']
theorem enc_4 (r : Nat) (h : 65536 ≤ r) (h' : r ≤ 1114111) : rune1 (r : Int) = [UInt8.ofNat (240 + r / 262144), UInt8.ofNat (128 + r / 4096 % 64), UInt8.ofNat (128 + r / 64 % 64), UInt8.ofNat (128 + r % 64)] := by
  rw [enc_ok r (by omega) h', encC, if_neg (by omega), if_neg (by omega), if_neg (by omega)]
theorem enc_5 (r : Nat) (h : 55296 ≤ r) (h' : r ≤ 57343) : rune1 (r : Int) = [239, 191, 189] := by
  rw [enc_c, vc r h h']
  simp only [Bool.false_eq_true, if_false, Utf8.runeError, encC]
  rfl
theorem enc_eq (r : Nat) (h : r ≤ 1114111) : rune1 (r : Int) = Lib.encodeRune (r : Int) := by
  unfold Lib.encodeRune Lib.encodeRuneZ
  by_cases h1 : r < 128
  · rw [if_pos (show (0 : Int) ≤ (r : Int) ∧ (r : Int) ≤ 127 by omega), enc_1 r h1]
    simp only [List.map_cons, List.map_nil, Int.toNat_natCast]
  · rw [if_neg (show ¬ ((0 : Int) ≤ (r : Int) ∧ (r : Int) ≤ 127) by omega)]
    by_cases h2 : r < 2048
    · rw [if_pos (show (128 : Int) ≤ (r : Int) ∧ (r : Int) ≤ 2047 by omega), enc_2 r (by omega) h2]
      have a1 : (192 + (r : Int) / 64).toNat = 192 + r / 64 := by omega
      have a2 : (128 + (r : Int) % 64).toNat = 128 + r % 64 := by omega
      simp only [List.map_cons, List.map_nil, a1, a2]
    · rw [if_neg (show ¬ ((128 : Int) ≤ (r : Int) ∧ (r : Int) ≤ 2047) by omega)]
      by_cases hv : r < 55296 ∨ 57343 < r
      · by_cases h3 : r < 65536
        · rw [if_pos (show ((2048 : Int) ≤ (r : Int) ∧ (r : Int) < 55296) ∨ ((57343 : Int) < (r : Int) ∧ (r : Int) ≤ 65535) by omega), enc_3 r (by omega) h3 hv]
          have a1 : (224 + (r : Int) / 4096).toNat = 224 + r / 4096 := by omega
          have a2 : (128 + (r : Int) / 64 % 64).toNat = 128 + r / 64 % 64 := by omega
          have a3 : (128 + (r : Int) % 64).toNat = 128 + r % 64 := by omega
          simp only [List.map_cons, List.map_nil, a1, a2, a3]
        · rw [if_neg (show ¬ (((2048 : Int) ≤ (r : Int) ∧ (r : Int) < 55296) ∨ ((57343 : Int) < (r : Int) ∧ (r : Int) ≤ 65535)) by omega), if_pos (show (65536 : Int) ≤ (r : Int) ∧ (r : Int) ≤ 1114111 by omega), enc_4 r (by omega) h]
          have a1 : (240 + (r : Int) / 262144).toNat = 240 + r / 262144 := by omega
          have a2 : (128 + (r : Int) / 4096 % 64).toNat = 128 + r / 4096 % 64 := by omega
          have a3 : (128 + (r : Int) / 64 % 64).toNat = 128 + r / 64 % 64 := by omega
          have a4 : (128 + (r : Int) % 64).toNat = 128 + r % 64 := by omega
          simp only [List.map_cons, List.map_nil, a1, a2, a3, a4]
      · rw [if_neg (show ¬ (((2048 : Int) ≤ (r : Int) ∧ (r : Int) < 55296) ∨ ((57343 : Int) < (r : Int) ∧ (r : Int) ≤ 65535)) by omega), if_neg (show ¬ ((65536 : Int) ≤ (r : Int) ∧ (r : Int) ≤ 1114111) by omega), enc_5 r (by omega) (by omega)]
        rfl

/-- What is valid is what its code points are encoded as. -/
theorem rn_valid : ∀ (f : Nat) (s : Str), s.length ≤ f → (Lib.validD s = true → runesStr (rn f s) = s) ∧ (Lib.validD s = false → s.length < (runesStr (rn f s)).length)
  | 0, s, h => by
    have : s = [] := List.eq_nil_of_length_eq_zero (by omega)
    subst this
    exact ⟨fun _ => rfl, fun h => by rw [Lib.validD_nil] at h; cases h⟩
  | f + 1, s, h => by
    unfold rn
    by_cases hne : s = []
    · subst hne
      exact ⟨fun _ => by simp [runesStr], fun h => by rw [Lib.validD_nil] at h; cases h⟩
    · have hw := Lib.decodeL_width s
      have hl := Lib.decodeL_le s hne
      obtain ⟨ih1, ih2⟩ := rn_valid f (s.drop (Lib.decodeL s).2) (by simp; omega)
      have e : runesStr (((Lib.decodeL s).1 : Int) :: rn f (s.drop (Lib.decodeL s).2)) = rune1 ((Lib.decodeL s).1 : Int) ++ runesStr (rn f (s.drop (Lib.decodeL s).2)) := by simp [runesStr]
      rw [if_neg hne, e, Lib.validD_step s hne]
      by_cases hb : (Lib.decodeL s).1 = 65533 ∧ (Lib.decodeL s).2 = 1
      · rw [if_pos hb]
        refine ⟨fun h => (by cases h), fun _ => ?_⟩
        have e3 : (rune1 ((Lib.decodeL s).1 : Int)).length = 3 := by rw [hb.1]; rfl
        have e4 : (s.drop (Lib.decodeL s).2).length ≤ (runesStr (rn f (s.drop (Lib.decodeL s).2))).length := by
          cases hv : Lib.validD (s.drop (Lib.decodeL s).2) with
          | true => rw [ih1 hv]; exact Nat.le_refl _
          | false => exact Nat.le_of_lt (ih2 hv)
        rw [List.length_append, e3]
        rw [List.length_drop, hb.2] at e4
        rw [hb.2]
        omega
      · rw [if_neg hb]
        have e5 : rune1 ((Lib.decodeL s).1 : Int) = s.take (Lib.decodeL s).2 := by rw [enc_eq _ (Lib.decodeL_rune s)]; exact Lib.encode_decode s hne hb
        refine ⟨fun hv => by rw [ih1 hv, e5, List.take_append_drop], fun hv => ?_⟩
        have := ih2 hv
        rw [List.length_append, e5, List.length_take]
        rw [List.length_drop] at this
        omega
theorem rn_le : ∀ (f : Nat) (s : Str), (rn f s).length ≤ s.length
  | 0, s => by simp [rn]
  | f + 1, s => by
    unfold rn
    by_cases h : s = []
    · simp [h]
    · have h1 := Lib.decodeL_width s
      have h2 := Lib.decodeL_le s h
      have h3 := rn_le f (s.drop (Lib.decodeL s).2)
      rw [List.length_drop] at h3
      rw [if_neg h, List.length_cons]
      omega
theorem runes_le (s : Str) : (runes s).length ≤ s.length := by rw [runes_eq]; exact rn_le _ s
theorem runes_valid {s : Str} (h : Lib.validD s = true) : runesStr (runes s) = s := by rw [runes_eq]; exact (rn_valid _ s (Nat.le_refl _)).1 h
/-- Is a text what its code points are encoded as? -/
theorem valid_eq (s : Str) : (runesStr (runes s) == s) = Lib.validD s := by
  rw [runes_eq]
  cases h : Lib.validD s with
  | true => simp [(rn_valid _ s (Nat.le_refl _)).1 h]
  | false =>
    have := (rn_valid _ s (Nat.le_refl _)).2 h
    rw [beq_eq_false_iff_ne]
    intro e
    rw [e] at this
    omega

/-! ### How many -/
theorem runesFrom_cnt (b : ByteArray) : ∀ (n i : Nat) (acc : Array Value), (Conv.runesFrom b n i acc).toList.length = acc.toList.length + Lib.runeCountFrom b n i
  | 0, i, acc => by simp [Conv.runesFrom, Lib.runeCountFrom]
  | n + 1, i, acc => by
    unfold Conv.runesFrom Lib.runeCountFrom
    split
    · rename_i h
      rw [runesFrom_cnt b n _ _]
      simp; omega
    · rfl
theorem runes_cnt (s : Str) : (runes s).length = rlen s := by
  unfold runes rlen Lib.runeCountL Lib.runeCount
  rw [List.length_map, runesFrom_cnt]
  simp [ByteArray.size]


end Go.Proofs.YtclohbgnaopjfaaGreatDoor

/- The reference's checks are the same. -/
namespace Go.Proofs.YtclohbgnaopjfaaGreatDoor
set_option linter.unusedSimpArgs false
set_option linter.unusedVariables false
open Go

/-! ### Names and values -/
theorem rvalue_eq (s : Str) : diptychref1_Value s = some (isValue s) := by
  unfold diptychref1_Value diptychref1_formed diptychref1_runes isValue
  simp only [Option.bind_some, valid_eq]
  by_cases h2 : s.length ≤ 40
  · have g2 : decide ((s.length : Int) ≤ 40) = true := by simp; omega
    simp [g2, h2]
  · have g2 : decide ((s.length : Int) ≤ 40) = false := by simp; omega
    simp [g2, h2]

/-! ### Rising -/
theorem rrise_l0 : ∀ (suf pre : List Str), (∀ s ∈ suf, s.length ≤ 4611686018427387904) → (pre ++ suf).length ≤ 4611686018427387904 → diptychref1_rise_l0 (pre ++ suf) suf (pre.length : Int) = some (sumB (riseAfter pre.getLast? suf))
  | [], pre, _, _ => by simp [diptychref1_rise_l0, riseAfter, sumB]
  | y :: suf, pre, h, hb => by
    have e : (pre.length : Int) + 1 = ((pre ++ [y]).length : Int) := by simp
    have ih := rrise_l0 suf (pre ++ [y]) (fun s hs => h s (by simp [hs])) (by simpa using hb)
    rw [List.append_assoc, List.singleton_append, ← e, List.getLast?_append, List.getLast?_singleton] at ih
    simp only [Option.some_or] at ih
    rw [diptychref1_rise_l0, rname_eq y (h y (by simp))]
    simp only [Option.bind_some]
    rw [riseAfter_cons]
    rcases Bool.eq_false_or_eq_true (isName y) with hn | hn
    rotate_left
    · simp [hn, sumB]
    · rw [hn]
      simp only [Bool.not_true, Bool.false_eq_true, if_false, Bool.true_and]
      rcases snoc_cases pre with rfl | ⟨p, x, rfl⟩
      · have g : decide ((([] : List Str).length : Int) > 0) = false := by decide
        simp only [g, Bool.false_eq_true, if_false]
        rw [ih]
        simp
      · have g : decide (((p ++ [x]).length : Int) > 0) = true := decide_eq_true (by simp only [List.length_append, List.length_cons, List.length_nil]; omega)
        have hr : rd (p ++ [x] ++ y :: suf) (w64 (((p ++ [x]).length : Int) - 1)) = some x := by
          simp only [List.length_append, List.length_cons, List.length_nil] at hb
          rw [w64_eq (by simp; omega)]
          have e2 : ((p ++ [x]).length : Int) - 1 = (p.length : Int) := by simp
          rw [e2, List.append_assoc]
          exact rd_mid p (y :: suf) x
        simp only [g, if_true, hr, Option.bind_some, List.getLast?_append, List.getLast?_singleton, Option.some_or]
        rcases Bool.eq_false_or_eq_true (Op.bytesLess y x || y == x) with hc | hc
        · simp only [hc, if_true, Bool.not_true, Bool.false_and, sumB]
        · simp only [hc, Bool.false_eq_true, if_false, Bool.not_false, Bool.true_and]
          exact ih
theorem rrise_eq (l : List Str) (h : ∀ s ∈ l, s.length ≤ 4611686018427387904) (hb : l.length ≤ 4611686018427387904) : diptychref1_rise l = some (riseB l) := by
  have h0 := rrise_l0 l [] h (by simpa using hb)
  have h0' : diptychref1_rise_l0 l l 0 = _ := h0
  unfold diptychref1_rise
  rw [chk_eq (by omega), h0']
  simp only [Option.bind_some, List.getLast?_nil, riseB]
  cases riseAfter none l <;> rfl

/-! ### Formed -/
theorem rformed_l0 : ∀ (l : List api_Attr) (i : Int) (out : List Str), (out.length + l.length) * 16 ≤ 140737488355328 → diptychref1_Formed_l0 l i out = some (if l.all (fun x => isValue x.Value) = true then .inr (out ++ l.map (·.Name)) else .inl false)
  | [], i, out, _ => by simp [diptychref1_Formed_l0]
  | a :: l, i, out, hb => by
    simp only [List.length_cons] at hb
    rw [diptychref1_Formed_l0, app_eq (by simp; omega)]
    simp only [Option.bind_some]
    rw [rvalue_eq]
    simp only [Option.bind_some]
    rcases Bool.eq_false_or_eq_true (isValue a.Value) with hv | hv
    rotate_left
    · simp [hv]
    · simp only [hv, Bool.not_true, Bool.false_eq_true, if_false, List.all_cons, Bool.true_and]
      rw [rformed_l0 l _ _ (by simp; omega)]
      simp
theorem rformed_l1 (n : api_Node) (f : api_Node → Option Bool) : ∀ (suf pre : List api_Node), n.Kids = pre ++ suf → (∀ k ∈ suf, f k = some (formB k)) → nwts n.Kids ≤ 1099511627776 → diptychref1_Formed_l1 n f suf (pre.length : Int) = some (sumB (formBs pre.getLast? suf))
  | [], pre, _, _, _ => by simp [diptychref1_Formed_l1, formBs_nil, sumB]
  | y :: suf, pre, hk, hf, hw => by
    have e : (pre.length : Int) + 1 = ((pre ++ [y]).length : Int) := by simp
    have ih := rformed_l1 n f suf (pre ++ [y]) (by rw [hk]; simp) (fun s hs => hf s (by simp [hs])) hw
    rw [← e, List.getLast?_append, List.getLast?_singleton] at ih
    simp only [Option.some_or] at ih
    rw [diptychref1_Formed_l1, hf y (by simp)]
    simp only [Option.bind_some]
    rw [formBs_cons]
    rcases Bool.eq_false_or_eq_true (formB y) with hn | hn
    rotate_left
    · simp [hn, sumB]
    · rw [hn]
      simp only [Bool.not_true, Bool.false_eq_true, if_false, Bool.true_and]
      rcases snoc_cases pre with rfl | ⟨p, x, rfl⟩
      · have g : decide ((([] : List api_Node).length : Int) > 0) = false := by decide
        simp only [g, Bool.false_eq_true, if_false]
        rw [ih]
        simp
      · have g : decide (((p ++ [x]).length : Int) > 0) = true := decide_eq_true (by simp only [List.length_append, List.length_cons, List.length_nil]; omega)
        have hl := nwts_len n.Kids
        have hr : rd n.Kids (w64 (((p ++ [x]).length : Int) - 1)) = some x := by
          rw [hk] at hl ⊢
          simp only [List.length_append, List.length_cons, List.length_nil] at hl
          rw [w64_eq (by simp; rw [hk] at hw; omega)]
          have e2 : ((p ++ [x]).length : Int) - 1 = (p.length : Int) := by simp
          rw [e2, List.append_assoc]
          exact rd_mid p (y :: suf) x
        have hy : nwt y ≤ nwts n.Kids := nwt_mem (by rw [hk]; simp)
        have hyw := nwt_eq y
        have hym := strsW_n y.Marks
        have ey : (y.Kind == ([116, 101, 120, 116] : Str)) = isT y := rfl
        have ex : (x.Kind == ([116, 101, 120, 116] : Str)) = isT x := rfl
        simp only [g, if_true, ey, List.getLast?_append, List.getLast?_singleton, Option.some_or]
        unfold alikeB
        cases hty : isT y with
        | false =>
          simp only [Bool.false_eq_true, if_false, Bool.and_false, Bool.false_and, Bool.not_false, Bool.true_and]
          exact ih
        | true =>
          simp only [if_true]
          rw [hr]
          simp only [Option.bind_some, ex]
          cases htx : isT x with
          | false =>
            simp only [Bool.false_eq_true, if_false, Bool.false_and, Bool.not_false, Bool.true_and]
            exact ih
          | true =>
            simp only [if_true]
            rw [sameNames_eq _ _ (by omega)]
            simp only [Option.bind_some, Bool.true_and]
            by_cases hm : x.Marks = y.Marks
            · simp [hm, sumB]
            · have hm' : ¬ y.Marks = x.Marks := fun e => hm e.symm
              simp only [hm, hm', decide_false, Bool.false_eq_true, if_false, Bool.not_false, Bool.true_and]
              exact ih
theorem rformed_k (n : api_Node) : nwt n ≤ 1099511627776 → ∀ kr, ndep n ≤ kr → diptychref1_Formed_k kr n = some (formB n) := by
  induction n using api_Node.ind with
  | h n ih =>
    intro hw kr hk
    have hd := ndep_eq n
    obtain ⟨kr, rfl⟩ : ∃ j, kr = j + 1 := ⟨kr - 1, by omega⟩
    have hwt := nwt_eq n
    have hl := nwts_len n.Kids
    have hm := strsW_n n.Marks
    have ha := attrsW_n n.Attrs
    have en : (n.Kind == ([116, 101, 120, 116] : Str)) = isT n := rfl
    rw [diptychref1_Formed_k, en, formB_eq]
    by_cases ht : isT n = true
    · simp only [ht, if_true]
      by_cases h1 : n.Text = []
      · simp [h1]
      · have g1 : (n.Text == []) = false := by simpa using h1
        simp only [g1, Bool.not_false, if_true]
        unfold diptychref1_formed diptychref1_runes
        simp only [Option.bind_some, valid_eq]
        cases hv : Lib.validD n.Text with
        | false => simp
        | true =>
          simp only [if_true]
          rw [rrise_eq _ (fun s hs => by have := strsW_mem hs; omega) (by omega)]
          simp only [Option.bind_some]
          cases hr : riseB n.Marks with
          | false => simp
          | true =>
            simp only [if_true, ne_eq, h1, not_false_eq_true, decide_true, Bool.true_and]
            by_cases h5 : n.Attrs.length = 0
            · have g5 : ((n.Attrs.length : Int) == 0) = true := by simp [h5]
              have g6 : decide (n.Attrs.length + n.Kids.length = 0) = ((n.Kids.length : Int) == 0) := by
                rw [Bool.eq_iff_iff]
                simp only [decide_eq_true_eq, beq_iff_eq]
                omega
              rw [if_pos g5, g6]
            · have g5 : ((n.Attrs.length : Int) == 0) = false := by simpa using h5
              have g6 : decide (n.Attrs.length + n.Kids.length = 0) = false := decide_eq_false fun e => h5 (by omega)
              simp only [g5, g6, Bool.false_eq_true, if_false]
    · simp only [ht, Bool.false_eq_true, if_false]
      rw [chk_eq (by omega), rformed_l0 _ _ _ (by simp; omega)]
      simp only [Option.bind_some]
      cases hv : n.Attrs.all (fun x => isValue x.Value) with
      | false => simp
      | true =>
        simp only [if_true, List.nil_append, Bool.true_and]
        rw [rname_eq _ (by omega)]
        simp only [Option.bind_some]
        cases h2 : isName n.Kind with
        | false => simp
        | true =>
          simp only [Bool.not_true, Bool.false_eq_true, if_false, Bool.true_and]
          by_cases h3 : n.Text = []
          · by_cases h4 : n.Marks = []
            · have g4 : decide ((n.Marks.length : Int) > 0) = false := by simp [h4]
              have g3 : (n.Text == []) = true := by simp [h3]
              simp only [g3, Bool.not_true, Bool.false_eq_true, if_false, g4]
              rw [rrise_eq _ (fun s hs => by
                obtain ⟨a, ha', rfl⟩ := List.mem_map.1 hs
                have := attrsW_mem ha'; omega) (by simp; omega)]
              simp only [Option.bind_some]
              cases hr : riseB (n.Attrs.map (·.Name)) with
              | false => simp
              | true =>
                simp only [Bool.not_true, Bool.false_eq_true, if_false]
                have h0 := rformed_l1 n (diptychref1_Formed_k kr) n.Kids [] rfl (fun k hkk => ih k hkk (by have := nwt_mem hkk; omega) kr (by have := ndep_mem hkk; omega)) (by omega)
                have h0' : diptychref1_Formed_l1 n (diptychref1_Formed_k kr) n.Kids 0 = _ := h0
                rw [chk_eq (by omega), h0']
                simp only [Option.bind_some, List.getLast?_nil, h3, h4, decide_true, Bool.true_and]
                cases formBs none n.Kids <;> rfl
            · have g4 : decide ((n.Marks.length : Int) > 0) = true := by
                have := List.length_pos_iff.2 h4
                simp; omega
              have g3 : (n.Text == []) = true := by simp [h3]
              simp only [g3, Bool.not_true, Bool.false_eq_true, if_false, g4, if_true]
              simp [h4]
          · have g3 : (n.Text == []) = false := by simpa using h3
            simp only [g3, Bool.not_false, if_true]
            simp [h3]
theorem rformed_eq (n : api_Node) (h : nwt n ≤ 1099511627776) : diptychref1_Formed n = some (formB n) := by
  unfold diptychref1_Formed
  exact lim_of (ndep n) fun kr hk => rformed_k n h kr hk

/-! ### Depth, size, words -/
theorem rtot_l0 (sz : api_Node → Option Int) : ∀ (l : List api_Node) (i acc : Int), (∀ k ∈ l, sz k = some (nsize k : Int)) → 0 ≤ acc → acc + nsizes l ≤ 9223372036854775807 → diptychref1_Total_l0 sz l i acc = some (acc + nsizes l)
  | [], i, acc, _, _, _ => by simp [diptychref1_Total_l0, nsizes]
  | n :: l, i, acc, h, h0, hb => by
    simp only [nsizes] at hb
    rw [diptychref1_Total_l0, h n (by simp)]
    simp only [Option.bind_some]
    rw [w64_eq (by omega), rtot_l0 sz l _ _ (fun k hk => h k (by simp [hk])) (by omega) (by omega)]
    simp only [nsizes, Option.some.injEq]
    omega
theorem rsiz_k (n : api_Node) : nwt n ≤ 1099511627776 → ∀ kr, 2 * ndep n ≤ kr → diptychref1_Size_k kr n = some (nsize n : Int) := by
  induction n using api_Node.ind with
  | h n ih =>
    intro hw kr hk
    have hd := ndep_eq n
    obtain ⟨kr, rfl⟩ : ∃ j, kr = j + 2 := ⟨kr - 2, by omega⟩
    have hwt := nwt_eq n
    have hl := nwts_len n.Kids
    have hs := nsizes_le' n.Kids
    have en : (n.Kind == ([116, 101, 120, 116] : Str)) = isT n := rfl
    rw [diptychref1_Size_k, en, nsize_eq]
    by_cases ht : isT n = true
    · simp only [ht, if_true]
      unfold diptychref1_runes
      simp only [Option.bind_some, runes_cnt]
    · simp only [ht, Bool.false_eq_true, if_false]
      have h0 := rtot_l0 (diptychref1_Size_k kr) n.Kids 0 0 (fun k hkk => ih k hkk (by have := nwt_mem hkk; omega) kr (by have := ndep_mem hkk; omega)) (by omega) (by omega)
      rw [diptychref1_Total_k, chk_eq (by omega), h0]
      simp only [Option.bind_some]
      rw [w64_eq (by omega)]
      simp
theorem rsiz_eq (n : api_Node) (h : nwt n ≤ 1099511627776) : diptychref1_Size n = some (nsize n : Int) := by
  unfold diptychref1_Size
  exact lim_of (2 * ndep n) fun kr hk => rsiz_k n h kr hk
theorem rtot_eq (l : List api_Node) (h : nwts l ≤ 1099511627776) : diptychref1_Total l = some (nsizes l : Int) := by
  unfold diptychref1_Total
  refine lim_of (2 * ndeps l + 1) fun kr hk => ?_
  obtain ⟨kr, rfl⟩ : ∃ j, kr = j + 1 := ⟨kr - 1, by omega⟩
  have hl := nwts_len l
  have hs := nsizes_le' l
  have h0 := rtot_l0 (diptychref1_Size_k kr) l 0 0 (fun k hkk => rsiz_k k (by have := nwt_mem hkk; omega) kr (by have := ndep_mem hkk; omega)) (by omega) (by omega)
  rw [diptychref1_Total_k, chk_eq (by omega), h0]
  simp

theorem rcheck_eq (n : api_Node) (h : nwt n ≤ 1099511627776) : diptychref1_Check n = some (checkN n) := by
  unfold diptychref1_Check checkN
  rw [rformed_eq n h]
  simp only [Option.bind_some]
  cases hf : formB n with
  | false => simp
  | true =>
    simp only [Bool.not_true, Bool.false_eq_true, if_false]
    rw [rdepth_eq n h]
    simp only [Option.bind_some]
    by_cases hd : 40 < depN n
    · have g : decide ((depN n : Int) > 40) = true := by simp; omega
      simp [g, hd]
    · have g : decide ((depN n : Int) > 40) = false := by simp; omega
      simp only [g, Bool.false_eq_true, if_false]
      rw [rsiz_eq n h]
      simp only [Option.bind_some, hd, if_false]
      by_cases hs : 4000 < nsize n
      · have g : decide ((nsize n : Int) > 4000) = true := by simp; omega
        simp [g, hs]
      · have g : decide ((nsize n : Int) > 4000) = false := by simp; omega
        simp only [g, Bool.false_eq_true, if_false, hs]
        simp

end Go.Proofs.YtclohbgnaopjfaaGreatDoor

/- Quoted texts and heads: the reference's. -/
namespace Go.Proofs.YtclohbgnaopjfaaGreatDoor
set_option linter.unusedSimpArgs false
set_option linter.unusedVariables false
open Go

theorem rquote_l0 (s : Str) : ∀ (f i k : Nat) (out : Str), i + f = s.length → f < k → out.length + 2 * f ≤ 4611686018427387904 → s.length ≤ 1099511627776 → diptychref2_Quote_l0 s k out (i : Int) = some (out ++ esc (s.drop i))
  | 0, i, k, out, h1, h2, _, _ => by
    obtain ⟨k, rfl⟩ : ∃ x, k = x + 1 := ⟨k - 1, by omega⟩
    have hd : decide ((i : Int) < (s.length : Int)) = false := by simp; omega
    rw [diptychref2_Quote_l0]
    simp only [hd, Bool.false_eq_true, if_false]
    rw [List.drop_of_length_le (by omega)]
    simp [esc]
  | f + 1, i, k, out, h1, h2, h3, h4 => by
    obtain ⟨k, rfl⟩ : ∃ x, k = x + 1 := ⟨k - 1, by omega⟩
    have hi : i < s.length := by omega
    have hd : decide ((i : Int) < (s.length : Int)) = true := by simp; omega
    have hb : s.drop i = s[i] :: s.drop (i + 1) := List.drop_eq_getElem_cons hi
    have hg : s.getD ((i : Int)).toNat 0 = s[i] := by simp [List.getD, hi]
    have hsl : sl s (i : Int) (w64 ((i : Int) + 1)) = some [s[i]] := by
      rw [w64_eq (by omega)]
      have := sl_nat (l := s) (a := i) (b := i + 1) (by omega) (by omega)
      have e : (i : Int) + 1 = ((i + 1 : Nat) : Int) := by omega
      rw [e, this, List.drop_take, hb, show i + 1 - i = 1 by omega]
      rfl
    have e : w64 ((i : Int) + 1) = ((i + 1 : Nat) : Int) := by rw [w64_eq (by omega)]; omega
    have ih := fun out' h => rquote_l0 s f (i + 1) k out' (by omega) (by omega) h h4
    rw [diptychref2_Quote_l0]
    simp only [hd, if_true]
    rw [chk_eq (by omega), hg, hsl, e, hb, esc_cons]
    have hnat : ∀ m : Nat, (((s[i].toNat : Int) == (m : Int)) = true ↔ s[i].toNat = m) := fun m => by
      rw [beq_iff_eq]; omega
    by_cases c1 : s[i] = 34
    · have g1 : ((s[i].toNat : Int) == 34) = true := by rw [c1]; rfl
      simp only [g1, if_true]
      rw [chk_eq (by simp; omega)]
      simp only [Option.bind_some]
      rw [chk_eq (by simp; omega), ih _ (by simp; omega)]
      simp [esc1, c1]
    · have g1 : ((s[i].toNat : Int) == 34) = false := by
        rw [Bool.eq_false_iff]
        intro h
        exact c1 (UInt8.toNat_inj.1 (by have := (hnat 34).1 h; simpa using this))
      by_cases c2 : s[i] = 92
      · have g2 : ((s[i].toNat : Int) == 92) = true := by rw [c2]; rfl
        simp only [g1, g2, Bool.false_eq_true, if_false, if_true]
        rw [chk_eq (by omega), chk_eq (by simp; omega)]
        simp only [Option.bind_some]
        rw [chk_eq (by simp; omega), ih _ (by simp; omega)]
        simp [esc1, c2]
      · have g2 : ((s[i].toNat : Int) == 92) = false := by
          rw [Bool.eq_false_iff]
          intro h
          exact c2 (UInt8.toNat_inj.1 (by have := (hnat 92).1 h; simpa using this))
        simp only [g1, g2, Bool.false_eq_true, if_false]
        rw [chk_eq (by omega)]
        simp only [Option.bind_some]
        rw [chk_eq (by simp; omega), ih _ (by simp; omega)]
        simp [esc1, c1, c2]
theorem rquote_eq (s : Str) (h : s.length ≤ 1073741824) : diptychref2_Quote s = some (qt s) := by
  have he := esc_le s
  have h0 : (lim fun k => diptychref2_Quote_l0 s k [34] 0) = some ([34] ++ esc s) :=
    lim_of (s.length + 1) fun k hk => by
      have := rquote_l0 s s.length 0 k [34] (by omega) (by omega) (by simp; omega) (by omega)
      simpa using this
  unfold diptychref2_Quote
  rw [h0]
  simp only [Option.bind_some]
  rw [chk_eq (by simp; omega)]
  rfl

theorem rhead_l0 : ∀ (l : List Str) (i : Int) (s : Str), 0 < i → s.length + strsW l ≤ 4611686018427387904 → diptychref2_Head_l0 l i s = some (s ++ Lib.joinTail [44] l)
  | [], i, s, _, _ => by simp [diptychref2_Head_l0, Lib.joinTail]
  | x :: l, i, s, hi, h => by
    simp only [strsW] at h
    have g : decide (i > 0) = true := by simpa using hi
    rw [diptychref2_Head_l0]
    simp only [g, if_true]
    rw [chk_eq (by simp; omega), chk_eq (by simp; omega), rhead_l0 l _ _ (by omega) (by simp; omega), joinTail_cons]
    simp
theorem rhead_l0' (l : List Str) (h : strsW l ≤ 1073741824) : diptychref2_Head_l0 l 0 [] = some (Lib.join l [44]) := by
  cases l with
  | nil => rfl
  | cons x l =>
    simp only [strsW] at h
    rw [diptychref2_Head_l0, if_neg (by decide), chk_eq (by simp; omega), rhead_l0 l _ _ (by omega) (by simp; omega), Lib.join_cons]
    simp
theorem rhead_l1 : ∀ (l : List api_Attr) (i : Int) (s : Str), 0 < i → s.length + 4 * attrsW l ≤ 4611686018427387904 → attrsW l ≤ 1073741824 → diptychref2_Head_l1 l i s = some (s ++ Lib.joinTail [32] (l.map atx))
  | [], i, s, _, _, _ => by simp [diptychref2_Head_l1, Lib.joinTail]
  | x :: l, i, s, hi, h, h' => by
    simp only [attrsW] at h h'
    have g : decide (i > 0) = true := by simpa using hi
    have hq := qt_le x.Value
    rw [diptychref2_Head_l1]
    simp only [g, if_true]
    rw [chk_eq (by simp; omega), chk_eq (by simp; omega), chk_eq (by simp; omega), rquote_eq _ (by omega)]
    simp only [Option.bind_some]
    rw [chk_eq (by simp; omega), rhead_l1 l _ _ (by omega) (by simp; omega) (by omega), List.map_cons, joinTail_cons]
    simp [atx]
theorem rhead_l1' (l : List api_Attr) (h : attrsW l ≤ 1073741824) : diptychref2_Head_l1 l 0 [] = some (Lib.join (l.map atx) [32]) := by
  cases l with
  | nil => rfl
  | cons x l =>
    simp only [attrsW] at h
    have hq := qt_le x.Value
    rw [diptychref2_Head_l1, if_neg (by decide), chk_eq (by simp; omega), chk_eq (by simp; omega), rquote_eq _ (by omega)]
    simp only [Option.bind_some]
    rw [chk_eq (by simp; omega), rhead_l1 l _ _ (by omega) (by simp; omega) (by omega), List.map_cons, Lib.join_cons]
    simp [atx]
theorem rhead_eq (n : api_Node) (h : nwt n ≤ 1073741824) : diptychref2_Head n = some (hd n) := by
  have hw := nwt_eq n
  have hm := strsW_len' n.Marks
  have ha := attrsW_len' n.Attrs
  unfold diptychref2_Head hd
  rw [isT_def']
  by_cases ht : isT n = true
  · simp only [ht, if_true]
    have hj := join_le 44 n.Marks
    rw [chk_eq (by omega), rhead_l0' _ (by omega)]
    simp only [Option.bind_some]
    by_cases hm0 : n.Marks = []
    · simp [hm0, Lib.join]
    · have g : decide ((n.Marks.length : Int) > 0) = true := by
        have := List.length_pos_iff.2 hm0
        simp; omega
      simp only [g, if_true, hm0, if_false]
      rw [chk_eq (by simp; omega), chk_eq (by simp; omega)]
      rfl
  · simp only [ht, Bool.false_eq_true, if_false]
    have hj := join_le 32 (n.Attrs.map atx)
    have hj2 := atxs_le n.Attrs
    rw [chk_eq (by omega), rhead_l1' _ (by omega)]
    simp only [Option.bind_some]
    by_cases ha0 : n.Attrs = []
    · have e : Lib.join [] [32] = [] := rfl
      simp only [ha0, if_true, List.map_nil, e, List.length_nil, List.append_nil]
      rw [if_neg (by decide), chk_eq (by simp; omega)]
    · have g : decide ((n.Attrs.length : Int) > 0) = true := by
        have := List.length_pos_iff.2 ha0
        simp; omega
      simp only [g, if_true, ha0, if_false]
      rw [chk_eq (by simp; omega), chk_eq (by simp; omega), chk_eq (by simp; omega)]
      simp

end Go.Proofs.YtclohbgnaopjfaaGreatDoor

/- The reference's writing is the same. -/
namespace Go.Proofs.YtclohbgnaopjfaaGreatDoor
set_option linter.unusedSimpArgs false
set_option linter.unusedVariables false
open Go

theorem rwrite_l0 (f : api_Node → Option Str) : ∀ (l : List api_Node) (i : Int) (acc : Str), (∀ k ∈ l, f k = some (writeN k)) → acc.length + 4 * nwts l ≤ 4294967296 → diptychref2_WriteAll_l0 f l i acc = some (acc ++ writeL l)
  | [], i, acc, _, _ => by simp [diptychref2_WriteAll_l0, writeL]
  | n :: l, i, acc, h, hb => by
    simp only [nwts] at hb
    have hle := writeN_le n
    rw [diptychref2_WriteAll_l0, h n (by simp)]
    simp only [Option.bind_some]
    rw [chk_eq (by omega), rwrite_l0 f l _ _ (fun k hk => h k (by simp [hk])) (by simp; omega)]
    simp [writeL]
theorem rwrite_k (n : api_Node) : nwt n ≤ 1073741824 → ∀ kr, 2 * ndep n ≤ kr → diptychref2_Write_k kr n = some (writeN n) := by
  induction n using api_Node.ind with
  | h n ih =>
    intro hw kr hk
    have hd' := ndep_eq n
    obtain ⟨kr, rfl⟩ : ∃ j, kr = j + 1 + 1 := ⟨kr - 2, by omega⟩
    have hwt := nwt_eq n
    have hl := nwts_len n.Kids
    have hh := hd_le n
    have hq := qt_le n.Text
    have en : (n.Kind == ([116, 101, 120, 116] : Str)) = isT n := rfl
    rw [diptychref2_Write_k, en, writeN_eq]
    by_cases ht : isT n = true
    · simp only [ht, if_true]
      rw [rquote_eq _ (by omega)]
      simp only [Option.bind_some]
      rw [rhead_eq n hw]
      simp only [Option.bind_some]
      rw [chk_eq (by omega)]
    · simp only [ht, Bool.false_eq_true, if_false]
      rw [rhead_eq n hw]
      simp only [Option.bind_some]
      have hwl := writeL_le n.Kids fun k _ => writeN_le k
      rw [chk_eq (by simp; omega), diptychref2_WriteAll_k, chk_eq (by omega), rwrite_l0 (diptychref2_Write_k kr) n.Kids 0 [] (fun k hkk => ih k hkk (by have := nwt_mem hkk; omega) kr (by have := ndep_mem hkk; omega)) (by simp; omega)]
      simp only [Option.bind_some, List.nil_append]
      rw [chk_eq (by simp; omega), chk_eq (by simp; omega)]
      simp
theorem rwrite_eq (n : api_Node) (h : nwt n ≤ 1073741824) : diptychref2_Write n = some (writeN n) := by
  unfold diptychref2_Write
  exact lim_of (2 * ndep n) fun kr hk => rwrite_k n h kr hk
theorem rwriteAll_eq (l : List api_Node) (h : nwts l ≤ 1073741824) : diptychref2_WriteAll l = some (writeL l) := by
  have hl := nwts_len l
  unfold diptychref2_WriteAll
  refine lim_of (2 * ndeps l + 1) fun kr hk => ?_
  obtain ⟨kr, rfl⟩ : ∃ j, kr = j + 1 := ⟨kr - 1, by omega⟩
  rw [diptychref2_WriteAll_k, chk_eq (by omega), rwrite_l0 (diptychref2_Write_k kr) l 0 [] (fun k hkk => rwrite_k k (by have := nwt_mem hkk; omega) kr (by have := ndep_mem hkk; omega)) (by simp; omega)]
  rfl
end Go.Proofs.YtclohbgnaopjfaaGreatDoor

/- The reference's PrintAll, plainly. -/
namespace Go.Proofs.YtclohbgnaopjfaaGreatDoor
set_option linter.unusedSimpArgs false
set_option linter.unusedVariables false
open Go

theorem rprintAll_eq (l : List api_Node) (h : nwts l ≤ 268435400) : diptychref2_PrintAll l = some (if checkN (xN l) = 0 then (writeL l, 0) else ([], checkN (xN l))) := by
  have hw := xN_wt l
  unfold diptychref2_PrintAll
  rw [rcheck_eq (xN l) (by rw [hw]; omega)]
  simp only [Option.bind_some]
  by_cases h0 : checkN (xN l) = 0
  · simp only [h0, bne_self_eq_false, Bool.false_eq_true, if_false, if_true]
    rw [rwriteAll_eq l (by omega)]
    rfl
  · have g : (checkN (xN l) != (0 : Int)) = true := by simpa using h0
    simp only [g, if_true, h0, if_false]

end Go.Proofs.YtclohbgnaopjfaaGreatDoor

/- When the reference calls a step right. -/
namespace Go.Proofs.YtclohbgnaopjfaaGreatDoor
set_option linter.unusedSimpArgs false
set_option linter.unusedVariables false
open Go

/-- A step, as the reference has it. -/
abbrev rS (s : step_Step) : diptychref11_Step := ⟨s.Kind, s.From, s.To, s.Nodes, s.Name, s.Value⟩
theorem form_x {l : List api_Node} (h : formB (xN l) = true) : formBs none l = true := by
  rw [formB_eq, if_neg (by rw [show isT (xN l) = false from rfl]; simp)] at h
  simp only [Bool.and_eq_true] at h
  exact h.2
theorem rstepRight_val (s : step_Step) (hw : nwts s.Nodes ≤ 268435400) (h1 : s.Name.length ≤ 1048576) (h2 : s.Value.length ≤ 1048576) : diptychref11_Right (rS s) = some (srB s) := by
  obtain ⟨k, f, t, l, n, v⟩ := s
  simp only at hw h1 h2
  have hxw := xN_wt l
  unfold diptychref11_Right srB
  simp only
  rw [span_eq]
  simp only [Option.bind_some]
  by_cases hk : k = 114
  · subst hk
    rw [if_pos (by decide), if_pos rfl, join_eq l (by omega), rformed_eq (xN l) (by omega)]
    simp only [Option.bind_some]
    obtain ⟨q, q1, q2⟩ := rsameAll_tells (joinR l) l (by have := joinR_wt l; omega)
    rw [q1]
    simp only [Option.bind_some]
    cases hf : formB (xN l) with
    | true =>
      have := q2.2 (joinR_form (form_x hf))
      subst this
      cases spanB f t <;> cases n <;> rfl
    | false =>
      cases spanB f t <;> cases q <;> rfl
  · rw [if_neg (by simpa using hk), if_neg hk]
    by_cases hk2 : k = 97
    · subst hk2
      rw [if_pos (by decide), if_pos rfl, rname_eq n (by omega), rvalue_eq v, len_empty]
      simp only [Option.bind_some]
      have e1 : decide (f ≥ -1) = decide (-1 ≤ f) := rfl
      have e2 : (t == 0) = decide (t = 0) := by by_cases h : t = 0 <;> simp [h]
      rw [e1, e2]
      cases decide (-1 ≤ f) <;> cases decide (f ≤ 1048576) <;> cases decide (t = 0) <;> cases isName n <;> cases isValue v <;> rfl
    · rw [if_neg (by simpa using hk2), if_neg hk2]
      by_cases hk3 : k = 109
      · subst hk3
        rw [if_pos (by decide), if_pos (show (109 : Int) = 109 ∨ (109 : Int) = 117 from .inl rfl), rname_eq n (by omega), len_empty]
        simp only [Option.bind_some]
        cases spanB f t <;> cases isName n <;> cases l.isEmpty <;> rfl
      · rw [if_neg (by simpa using hk3)]
        by_cases hk4 : k = 117
        · subst hk4
          rw [if_pos (by decide), if_pos (show (117 : Int) = 109 ∨ (117 : Int) = 117 from .inr rfl), rname_eq n (by omega), len_empty]
          simp only [Option.bind_some]
          cases spanB f t <;> cases isName n <;> cases l.isEmpty <;> rfl
        · rw [if_neg (by simpa using hk4), if_neg (by omega)]

end Go.Proofs.YtclohbgnaopjfaaGreatDoor

/- Steps as the reference writes them. -/
namespace Go.Proofs.YtclohbgnaopjfaaGreatDoor
set_option linter.unusedSimpArgs false
set_option linter.unusedVariables false
open Go

theorem dig_sl (d : Nat) (h : d < 10) : sl ([48, 49, 50, 51, 52, 53, 54, 55, 56, 57] : Str) (d : Int) (w64 ((d : Int) + 1)) = some [UInt8.ofNat (48 + d)] := by
  have : ∀ d : Fin 10, sl ([48, 49, 50, 51, 52, 53, 54, 55, 56, 57] : Str) ((d.val : Nat) : Int) (w64 (((d.val : Nat) : Int) + 1)) = some [UInt8.ofNat (48 + d.val)] := by decide +kernel
  exact this ⟨d, h⟩
theorem w64_id (z : Int) (h : -9223372036854775808 ≤ z ∧ z ≤ 9223372036854775807) : w64 z = z := w64_eq h
theorem dec_l0 : ∀ (k n : Nat) (s : Str), n < k → (s = [] → n + 1 < k) → n ≤ 1099511627776 → s.length + n ≤ 1099511627776 → diptychref12_Decimal_l0 k (n : Int) s = some (if n = 0 ∧ s ≠ [] then s else Lib.decDigits n ++ s)
  | 0, n, s, h, _, _, _ => by omega
  | k + 1, n, s, h, h', hn, hs => by
    rw [diptychref12_Decimal_l0]
    have step : (sl ([48, 49, 50, 51, 52, 53, 54, 55, 56, 57] : Str) ((n : Int).tmod (10 : Int)) (w64 (((n : Int).tmod (10 : Int)) + (1 : Int)))) = some [UInt8.ofNat (48 + n % 10)] := by
      have e : ((n : Int).tmod (10 : Int)) = ((n % 10 : Nat) : Int) := by rw [Int.tmod_eq_emod_of_nonneg (by omega)]; omega
      rw [e]
      exact dig_sl _ (by omega)
    have q : w64 ((n : Int).tdiv 10) = ((n / 10 : Nat) : Int) := by
      have e : (n : Int).tdiv 10 = ((n / 10 : Nat) : Int) := by rw [Int.tdiv_eq_ediv_of_nonneg (by omega)]; omega
      rw [e, w64_id _ (by omega)]
    have go : (n = 0 → s = []) → ((sl ([48, 49, 50, 51, 52, 53, 54, 55, 56, 57] : Str) ((n : Int).tmod (10 : Int)) (w64 (((n : Int).tmod (10 : Int)) + (1 : Int)))).bind fun s_8 => chk (s_8.length + s.length ≤ 9223372036854775807) (diptychref12_Decimal_l0 k (w64 ((n : Int).tdiv (10 : Int))) (s_8 ++ s))) = some (Lib.decDigits n ++ s) := by
      intro h0
      rw [step, q]
      simp only [Option.bind_some]
      rw [chk_eq (by simp; omega)]
      have hk : n / 10 < k := by
        by_cases hz : n = 0
        · have := h' (h0 hz)
          omega
        · omega
      have hl : s.length + 1 + n / 10 ≤ 1099511627776 := by
        by_cases hz : n = 0
        · rw [h0 hz, hz]; simp
        · omega
      by_cases h1 : n < 10
      · rw [dec_l0 k (n / 10) _ hk (by simp) (by omega) (by simp; omega), if_pos ⟨by omega, by simp⟩, Lib.decDigits, dif_pos h1, Nat.mod_eq_of_lt h1]
      · rw [dec_l0 k (n / 10) _ hk (by simp) (by omega) (by simp; omega), if_neg (by omega)]
        conv => rhs; rw [Lib.decDigits, dif_neg h1]
        simp
    by_cases h1 : n = 0
    · subst h1
      by_cases h2 : s = []
      · subst h2
        have := go fun _ => rfl
        rw [this]
        rfl
      · rw [if_neg (show ¬ decide (((0 : Nat) : Int) > 0) = true by decide), if_neg (show ¬ (s == []) = true by simpa using h2), if_pos (show 0 = 0 ∧ s ≠ [] from ⟨rfl, h2⟩)]
        rfl
    · rw [if_neg (show ¬ (n = 0 ∧ s ≠ []) from fun h => h1 h.1), if_pos (show decide ((n : Int) > 0) = true by simp; omega)]
      exact go fun h => (h1 h).elim
theorem rdec_eq (z : Int) (h : -1 ≤ z ∧ z ≤ 1048576) : diptychref12_Decimal z = some (Lib.itoa z) := by
  have pos : ∀ (n : Nat) (kr : Nat), n ≤ 1048576 → diptychref12_Decimal_k (kr + 1) (n : Int) = some (Lib.decDigits n) := fun n kr hn => by
    rw [diptychref12_Decimal_k, if_neg (by simp)]
    have : (lim fun k => diptychref12_Decimal_l0 k (n : Int) ([] : Str)) = some (Lib.decDigits n) := lim_of (n + 2) fun k hk => by
      rw [dec_l0 k n [] (by omega) (fun _ => by omega) (by omega) (by simp; omega), if_neg (by simp)]
      simp
    rw [this]
    rfl
  unfold diptychref12_Decimal
  refine lim_of 2 fun k hk => ?_
  obtain ⟨k, rfl⟩ : ∃ j, k = j + 1 + 1 := ⟨k - 2, by omega⟩
  by_cases hz : z < 0
  · have : z = -1 := by omega
    subst this
    rw [diptychref12_Decimal_k, if_pos (by decide), show w64 (0 - -1) = ((1 : Nat) : Int) from by decide, pos 1 k (by omega)]
    have e1 : Lib.decDigits 1 = [49] := by rw [Lib.decDigits, dif_pos (by omega)]; decide
    have e2 : Lib.itoa (-1) = 45 :: Lib.decDigits 1 := by unfold Lib.itoa; rw [if_pos (by decide)]; rfl
    simp only [Option.bind_some]
    rw [e2, e1]
    rfl
  · obtain ⟨n, rfl⟩ := Int.eq_ofNat_of_zero_le (show 0 ≤ z by omega)
    rw [pos n (k + 1) (by omega)]
    unfold Lib.itoa
    rw [if_neg hz]
    rfl
theorem writeN_ne (n : api_Node) : writeN n ≠ [] := by
  rw [writeN_eq]
  split <;> simp [qt]
theorem writeL_nil (l : List api_Node) : writeL l = [] ↔ l = [] := by
  cases l with
  | nil => simp [writeL]
  | cons n l => simp [writeL, writeN_ne]
theorem rwwrite_eq {s : step_Step} (hs : StepK s) (hw : nwts s.Nodes ≤ 268435400) (h1 : s.Name.length ≤ 1048576) (h2 : s.Value.length ≤ 1048576) : diptychref12_Write (rS s) = some (wtext s) := by
  obtain ⟨hr, hf, ht⟩ := hs
  have i1 := itoa_len hf
  have i2 := itoa_len ht
  have hle := writeL_le s.Nodes fun k _ => writeN_le k
  have q1 := qt_le s.Value
  unfold diptychref12_Write
  simp only
  rw [rdec_eq s.From hf, rdec_eq s.To ht]
  simp only [Option.bind_some]
  cases hr with
  | rep f t l hl =>
    simp only at i1 i2 hle hw ⊢
    have e : wtext ⟨114, f, t, l, [], []⟩ = vRep ++ 32 :: (Lib.itoa f ++ 32 :: (Lib.itoa t ++ (if writeL l = [] then [] else 32 :: writeL l))) := rfl
    rw [e, if_pos (by decide), chk_eq (by simp; omega), chk_eq (by simp; omega), chk_eq (by simp; omega)]
    by_cases hn : l = []
    · rw [if_neg (by simp [hn]), if_pos ((writeL_nil l).2 hn)]
      simp
    · rw [if_pos (by have := List.length_pos_iff.2 hn; simp; omega), if_neg (fun h => hn ((writeL_nil l).1 h)), chk_eq (by simp; omega), rwriteAll_eq l (by omega)]
      simp only [Option.bind_some]
      rw [chk_eq (by simp; omega)]
      simp
  | att f n v hn =>
    simp only at i1 i2 h1 h2 q1 ⊢
    have e : wtext ⟨97, f, 0, [], n, v⟩ = vAtt ++ 32 :: (Lib.itoa f ++ 32 :: (n ++ 32 :: qt v)) := rfl
    rw [e, if_neg (by decide), if_pos (by decide), chk_eq (by simp; omega), chk_eq (by simp; omega), chk_eq (by simp; omega), chk_eq (by simp; omega), rquote_eq v (by omega)]
    simp only [Option.bind_some]
    rw [chk_eq (by simp; omega)]
    simp
  | mrk k f t n hk hn =>
    simp only at i1 i2 h1 ⊢
    rcases hk with rfl | rfl
    · have e : wtext ⟨109, f, t, [], n, []⟩ = vMrk ++ 32 :: (Lib.itoa f ++ 32 :: (Lib.itoa t ++ 32 :: n)) := rfl
      rw [e, if_neg (by decide), if_neg (by decide), if_pos (by decide), chk_eq (by simp; omega), chk_eq (by simp; omega), chk_eq (by simp; omega), chk_eq (by simp; omega), chk_eq (by simp; omega)]
      simp
    · have e : wtext ⟨117, f, t, [], n, []⟩ = vUnm ++ 32 :: (Lib.itoa f ++ 32 :: (Lib.itoa t ++ 32 :: n)) := rfl
      rw [e, if_neg (by decide), if_neg (by decide), if_neg (by decide), chk_eq (by simp; omega), chk_eq (by simp; omega), chk_eq (by simp; omega), chk_eq (by simp; omega), chk_eq (by simp; omega)]
      simp
/-- What is written of a step, or what is wrong. -/
def prB (s : step_Step) : Str × Int := if srB s = true then (if checkN (xN s.Nodes) = 0 then (wtext s, 0) else ([], checkN (xN s.Nodes))) else ([], 1)
theorem sr_k {s : step_Step} (hw : nwts s.Nodes ≤ 268435400) (h1 : s.Name.length ≤ 1048576) (h2 : s.Value.length ≤ 1048576) (h : srB s = true) : StepK s := by
  obtain ⟨b, e, hk⟩ := stepRight_eq s hw h1 h2
  rw [stepRight_val s hw h1 h2] at e
  cases e
  exact hk h
theorem wprint_val (s : step_Step) (hw : nwts s.Nodes ≤ 268435400) (h1 : s.Name.length ≤ 1048576) (h2 : s.Value.length ≤ 1048576) : wire_Print s = some (prB s) ∧ (prB s).1.length ≤ 1200000000 := by
  unfold wire_Print prB
  rw [stepRight_val s hw h1 h2]
  simp only [Option.bind_some]
  cases hb : srB s with
  | false => exact ⟨by simp, by simp⟩
  | true =>
    have k := sr_k hw h1 h2 hb
    simp only [Bool.not_true, Bool.false_eq_true, if_false, if_true]
    rw [printAll_eq s.Nodes hw]
    by_cases hc : checkN (xN s.Nodes) = 0
    · rw [if_pos hc, if_pos hc]
      simp only [Option.bind_some, bne_self_eq_false, Bool.false_eq_true, if_false]
      obtain ⟨w1, w2⟩ := wwrite_eq k hw h1 h2
      rw [w1]
      exact ⟨rfl, w2⟩
    · rw [if_neg hc, if_neg hc]
      simp only [Option.bind_some]
      rw [if_pos (by simpa using hc)]
      exact ⟨rfl, by simp⟩
theorem rwprint_val (s : step_Step) (hw : nwts s.Nodes ≤ 268435400) (h1 : s.Name.length ≤ 1048576) (h2 : s.Value.length ≤ 1048576) : diptychref12_Print (rS s) = some (prB s) := by
  unfold diptychref12_Print prB
  rw [rstepRight_val s hw h1 h2]
  simp only [Option.bind_some]
  cases hb : srB s with
  | false => simp
  | true =>
    have k := sr_k hw h1 h2 hb
    simp only [Bool.not_true, Bool.false_eq_true, if_false, if_true]
    rw [rprintAll_eq s.Nodes hw]
    by_cases hc : checkN (xN s.Nodes) = 0
    · rw [if_pos hc, if_pos hc]
      simp only [Option.bind_some, bne_self_eq_false, Bool.false_eq_true, if_false]
      rw [rwwrite_eq k hw h1 h2]
      rfl
    · rw [if_neg hc, if_neg hc]
      simp only [Option.bind_some]
      rw [if_pos (by simpa using hc)]

end Go.Proofs.YtclohbgnaopjfaaGreatDoor

/- WirePrints, plainly. -/
namespace Go.Proofs.YtclohbgnaopjfaaGreatDoor
set_option linter.unusedSimpArgs false
set_option linter.unusedVariables false
open Go

/-- What a step may weigh. -/
def sOk (s : step_Step) : Prop := nwts s.Nodes ≤ 268435400 ∧ s.Name.length ≤ 1048576 ∧ s.Value.length ≤ 1048576
theorem few_l0 : ∀ (l : List step_Step) (i : Int), (∀ s ∈ l, sOk s) → ∃ r, diptychlaw12_few_l0 l i = some r ∧ (r = .inr () ∨ r = .inl false)
  | [], i, _ => ⟨_, by rw [diptychlaw12_few_l0], .inl rfl⟩
  | s :: l, i, h => by
    have hw := (h s (by simp)).1
    have hnw : nwt (⟨[], [], [], [], s.Nodes⟩ : api_Node) ≤ 1099511627776 := by
      simp only [nwt, strsW, attrsW, List.length_nil]; omega
    rw [diptychlaw12_few_l0, light_eq _ hnw]
    simp only [Option.bind_some]
    split
    · exact ⟨_, rfl, .inr rfl⟩
    · split
      · exact ⟨_, rfl, .inr rfl⟩
      · split
        · exact ⟨_, rfl, .inr rfl⟩
        · exact few_l0 l (i + 1) fun x hx => h x (by simp [hx])
theorem few_all (l : List step_Step) (h : ∀ s ∈ l, sOk s) (hl : l.length ≤ 1048576) : ∃ r, diptychlaw12_few l = some r ∧ (r = true → l.length < 15) := by
  obtain ⟨r, h1, h2⟩ := few_l0 l 0 h
  unfold diptychlaw12_few
  rw [chk_eq (by omega), h1]
  rcases h2 with rfl | rfl
  · refine ⟨_, rfl, fun e => ?_⟩
    have := of_decide_eq_true e
    omega
  · exact ⟨_, rfl, fun e => by cases e⟩
theorem prints_l0 : ∀ (l : List step_Step) (i : Int), (∀ s ∈ l, sOk s) → diptychlaw12_WirePrints_l0 l i = some (.inr ())
  | [], i, _ => by rw [diptychlaw12_WirePrints_l0]
  | s :: l, i, h => by
    obtain ⟨h1, h2, h3⟩ := h s (by simp)
    have has : diptychlaw12_asStep s = some (rS s) := rfl
    rw [diptychlaw12_WirePrints_l0, (wprint_val s h1 h2 h3).1]
    simp only [Option.bind_some]
    rw [has]
    simp only [Option.bind_some]
    rw [rwprint_val s h1 h2 h3]
    simp only [Option.bind_some, beq_self_eq_true, Bool.not_true, bne_self_eq_false, Bool.false_eq_true, if_false]
    exact prints_l0 l (i + 1) fun x hx => h x (by simp [hx])
/-- Steps as they are written, one behind the other, or what is wrong first. -/
def prL : Str → List step_Step → (Str × Int) ⊕ Str
  | out, [] => .inr out
  | out, s :: l => if (prB s).2 = 0 then prL (out ++ (prB s).1 ++ [10]) l else .inl ([], (prB s).2)
theorem prL_len : ∀ (l : List step_Step) (out r : Str), (∀ s ∈ l, (prB s).1.length ≤ 1200000000) → prL out l = .inr r → r.length ≤ out.length + 1200000001 * l.length
  | [], out, r, _, h => by cases h; simp
  | s :: l, out, r, h, hr => by
    rw [prL] at hr
    have h1 := h s (by simp)
    split at hr
    · have := prL_len l _ r (fun x hx => h x (by simp [hx])) hr
      simp at this ⊢
      omega
    · cases hr
theorem wall_l0 : ∀ (l : List step_Step) (i : Int) (out : Str), (∀ s ∈ l, sOk s) → out.length + 1200000001 * l.length ≤ 100000000000 → wire_PrintAll_l0 l i out = some (prL out l)
  | [], i, out, _, _ => by rw [wire_PrintAll_l0, prL]
  | s :: l, i, out, h, hl => by
    obtain ⟨h1, h2, h3⟩ := h s (by simp)
    obtain ⟨e, hlen⟩ := wprint_val s h1 h2 h3
    simp only [List.length_cons] at hl
    rw [wire_PrintAll_l0, e, prL]
    simp only [Option.bind_some]
    by_cases hz : (prB s).2 = 0
    · rw [if_neg (by simpa using hz), if_pos hz, chk_eq (by simp; omega), wstr_eq _ _ (by simp; omega)]
      simp only [Option.bind_some]
      rw [wall_l0 l _ _ (fun x hx => h x (by simp [hx])) (by simp; omega), List.append_assoc]
    · rw [if_pos (by simpa using hz), if_neg hz]
theorem rwall_l0 : ∀ (l : List step_Step) (i : Int) (out : Str), (∀ s ∈ l, sOk s) → out.length + 1200000001 * l.length ≤ 100000000000 → diptychref12_PrintAll_l0 (l.map rS) i out = some (prL out l)
  | [], i, out, _, _ => by rw [List.map_nil, diptychref12_PrintAll_l0, prL]
  | s :: l, i, out, h, hl => by
    obtain ⟨h1, h2, h3⟩ := h s (by simp)
    obtain ⟨e, hlen⟩ := wprint_val s h1 h2 h3
    simp only [List.length_cons] at hl
    rw [List.map_cons, diptychref12_PrintAll_l0, rwprint_val s h1 h2 h3, prL]
    simp only [Option.bind_some]
    by_cases hz : (prB s).2 = 0
    · rw [if_neg (by simpa using hz), if_pos hz, chk_eq (by omega), chk_eq (by simp; omega)]
      rw [rwall_l0 l _ _ (fun x hx => h x (by simp [hx])) (by simp; omega)]
    · rw [if_pos (by simpa using hz), if_neg hz]
theorem asteps_l0 : ∀ (l : List step_Step) (i : Int) (out : List diptychref11_Step), (out.length + l.length) ≤ 1000 → diptychlaw12_asSteps_l0 l i out = some (out ++ l.map rS)
  | [], i, out, _ => by rw [diptychlaw12_asSteps_l0]; simp
  | s :: l, i, out, h => by
    simp only [List.length_cons] at h
    have has : diptychlaw12_asStep s = some (rS s) := rfl
    rw [diptychlaw12_asSteps_l0, has]
    simp only [Option.bind_some]
    rw [app_eq (by simp; omega)]
    simp only [Option.bind_some]
    rw [asteps_l0 l _ _ (by simp; omega)]
    simp
theorem WirePrints_true (l : List step_Step) (h : ∀ s ∈ l, sOk s) (hl : l.length ≤ 1048576) : diptychlaw12_WirePrints l = some true := by
  unfold diptychlaw12_WirePrints
  rw [shown12_eq]
  simp only [Option.bind_some]
  obtain ⟨r, hr, hr2⟩ := few_all l h hl
  rw [hr]
  simp only [Option.bind_some, Bool.not_true, Bool.false_eq_true, if_false]
  cases r with
  | false => rfl
  | true =>
    have h15 := hr2 rfl
    simp only [Bool.not_true, Bool.false_eq_true, if_false]
    rw [chk_eq (by omega), prints_l0 l 0 h]
    simp only [Option.bind_some]
    have e1 : wire_PrintAll l = some (match prL [] l with | .inl x => x | .inr s => (s, 0)) := by
      unfold wire_PrintAll
      rw [chk_eq (by omega), wall_l0 l 0 [] h (by simp; omega)]
      simp only [Option.bind_some]
      cases hp : prL [] l with
      | inl x => rfl
      | inr s =>
        have := prL_len l [] s (fun x hx => (wprint_val x (h x hx).1 (h x hx).2.1 (h x hx).2.2).2) hp
        simp only
        unfold strings_Builder_String_x
        rw [chk_eq (by simp at this; omega)]
        rfl
    have e2 : diptychref12_PrintAll (l.map rS) = some (match prL [] l with | .inl x => x | .inr s => (s, 0)) := by
      unfold diptychref12_PrintAll
      rw [chk_eq (by simp; omega), rwall_l0 l 0 [] h (by simp; omega)]
      simp only [Option.bind_some]
      cases hp : prL [] l with
      | inl x => rfl
      | inr s => rfl
    have e3 : diptychlaw12_asSteps l = some (l.map rS) := by
      unfold diptychlaw12_asSteps
      rw [chk_eq (by omega), asteps_l0 l 0 [] (by simp; omega)]
      rfl
    rw [e1, e3]
    simp only [Option.bind_some]
    rw [e2]
    simp only [Option.bind_some, beq_self_eq_true, if_true]
theorem steps_w {l : List step_Step} {k : Nat} (h : pvWs (l.map step_Step.pv) ≤ k) : (∀ s ∈ l, nwts s.Nodes ≤ k ∧ s.Name.length ≤ k ∧ s.Value.length ≤ k) ∧ l.length ≤ k := by
  induction l generalizing k with
  | nil => exact ⟨by simp, by simp⟩
  | cons s l ih =>
    simp only [List.map_cons, pvWs] at h
    have h1 : 1 ≤ pvW s.pv := by
      rw [step_Step.pv_eq]
      simp only [pvW, pvWs]
      omega
    obtain ⟨i1, i2⟩ := ih (k := k - 1) (by omega)
    have hs := step_w (s := s) (k := k) (by omega)
    refine ⟨fun x hx => ?_, by simp; omega⟩
    rcases List.mem_cons.1 hx with rfl | hx
    · exact hs
    · have := i1 x hx
      omega
theorem WirePrints_card (l : List step_Step) (h : pvWs (l.map step_Step.pv) + 1 + 0 ≤ 1048576) : diptychlaw12_WirePrints l = some true := by
  obtain ⟨h1, h2⟩ := steps_w (l := l) (k := 1048576) (by omega)
  exact WirePrints_true l (fun s hs => ⟨by have := h1 s hs; omega, (h1 s hs).2.1, (h1 s hs).2.2⟩) h2

end Go.Proofs.YtclohbgnaopjfaaGreatDoor
