/- How documents are made of raw numbers: what comes of it is well formed, and small. (diptychlaw5: the law's package) -/
import Derived.Test.YtblielhogcnnkaaDoorNodeAdj
import Derived.Test.YtblielhogcnnkaaDoorRJoin
namespace Go.Proofs.YtblielhogcnnkaaDoor
set_option linter.unusedSimpArgs false
set_option linter.unusedVariables false
open Go

theorem w64_range (x : Int) : -9223372036854775808 ≤ w64 x ∧ w64 x ≤ 9223372036854775807 := by
  show -9223372036854775808 ≤ IntKind.wrap .i64 x ∧ IntKind.wrap .i64 x ≤ 9223372036854775807
  rw [IntKind.wrap_i64]; omega

theorem rd_lit {α : Type} (l : List α) (p : Nat) (h : p < l.length) : ∃ x, rd l (p : Int) = some x ∧ x ∈ l := ⟨l[p], rd_nat (List.getElem?_eq_getElem h), List.getElem_mem h⟩

/-! ### What is made -/
abbrev mTexts : List Str := [[97], [98, 99], [195, 169], [120, 32, 121], [230, 151, 165, 230, 156, 172]]
abbrev mKinds : List Str := [[112, 97, 114, 97], [105, 116, 101, 109], [108, 105, 115, 116], [110, 111, 116, 101]]
abbrev sAlign : Str := [97, 108, 105, 103, 110]
abbrev sDoc : Str := [100, 111, 99]

def MText (t : Str) : Prop := t ≠ [] ∧ ∃ l : List Str, (∀ x ∈ l, x ∈ mTexts) ∧ t = l.flatten
def MMarks (m : List Str) : Prop := m = [] ∨ m = [[98]] ∨ m = [[98], [105]]
def MAttrs (a : List api_Attr) : Prop := a = [] ∨ ∃ v ∈ mTexts, a = [⟨sAlign, v⟩]


inductive MN : api_Node → Prop
  | text (t : Str) (m : List Str) (ht : MText t) (hm : MMarks m) : MN ⟨sText, t, m, [], []⟩
  | node (k : Str) (a : List api_Attr) (ks : List api_Node) (hk : k ∈ mKinds) (ha : MAttrs a) (hs : ∀ x ∈ ks, MN x) (hj : AdjOk ks) : MN ⟨k, [], [], a, ks⟩

theorem mtext_one {t : Str} (h : t ∈ mTexts) : MText t := by
  refine ⟨?_, [t], by simpa using h, by simp⟩
  simp only [mTexts, List.mem_cons, List.not_mem_nil, or_false] at h
  rcases h with rfl | rfl | rfl | rfl | rfl <;> simp
theorem mtext_app {a b : Str} (ha : MText a) (hb : MText b) : MText (a ++ b) := by
  obtain ⟨h1, l1, h2, rfl⟩ := ha
  obtain ⟨h3, l2, h4, rfl⟩ := hb
  refine ⟨by simp_all, l1 ++ l2, fun x hx => ?_, by simp⟩
  rcases List.mem_append.1 hx with hx | hx
  · exact h2 x hx
  · exact h4 x hx
theorem mn_kind {k : Str} (h : k ∈ mKinds) : (k == sText) = false := by
  simp only [mKinds, List.mem_cons, List.not_mem_nil, or_false] at h
  rcases h with rfl | rfl | rfl | rfl <;> rfl

/-! ### What is joined of such is such -/
theorem adj_app : ∀ (o : List api_Node) (x n : api_Node), AdjOk (o ++ [x]) → alikeB x n = false → AdjOk (o ++ [x, n])
  | [], x, n, _, h => ⟨h, trivial⟩
  | [a], x, n, h1, h => ⟨h1.1, h, trivial⟩
  | a :: b :: o, x, n, h1, h => ⟨h1.1, adj_app (b :: o) x n h1.2 h⟩
theorem adj_swap : ∀ (o : List api_Node) (x n : api_Node), AdjOk (o ++ [x]) → (∀ a, alikeB a x = alikeB a n) → AdjOk (o ++ [n])
  | [], x, n, _, _ => trivial
  | [a], x, n, h1, h => ⟨by rw [← h]; exact h1.1, trivial⟩
  | a :: b :: o, x, n, h1, h => ⟨h1.1, adj_swap (b :: o) x n h1.2 h⟩

theorem joinStep_ok (o : List api_Node) (n : api_Node) (h : ∀ x ∈ o, MN x) (hj : AdjOk o) (hn : MN n) : (∀ x ∈ joinStep o n, MN x) ∧ AdjOk (joinStep o n) := by
  rcases snoc_cases o with rfl | ⟨o, x, rfl⟩
  · rw [joinStep_nil]
    split
    · exact ⟨by simp, trivial⟩
    · exact ⟨by simpa using hn, trivial⟩
  · rw [joinStep_snoc]
    split
    · exact ⟨h, hj⟩
    · split
      · rename_i hc
        simp only [Bool.and_eq_true, decide_eq_true_eq] at hc
        obtain ⟨⟨h1, h2⟩, h3⟩ := hc
        have hx := h x (by simp)
        cases hn with
        | text t m ht hm =>
          cases hx with
          | text t' m' ht' hm' =>
            simp only at h3
            subst h3
            refine ⟨fun y hy => ?_, adj_swap o _ _ hj fun a => rfl⟩
            rcases List.mem_append.1 hy with hy | hy
            · exact h y (by simp [hy])
            · simp at hy
              subst hy
              exact .text _ _ (mtext_app ht' ht) hm
          | node k a ks hk ha hs hj' => simp [isT, mn_kind hk] at h2
        | node k a ks hk ha hs hj' => simp [isT, mn_kind hk] at h1
      · rename_i hc
        refine ⟨fun y hy => ?_, adj_app o x n hj ?_⟩
        · rcases List.mem_append.1 hy with hy | hy
          · exact h y (by simp [hy])
          · simp at hy
            rcases hy with rfl | rfl
            · exact h y (by simp)
            · exact hn
        · have hc' : (isT n && isT x && decide (x.Marks = n.Marks)) = false := by simpa using hc
          unfold alikeB
          rw [Bool.and_comm (isT x)]
          exact hc'

theorem fold_ok : ∀ (l o : List api_Node), (∀ x ∈ o, MN x) → AdjOk o → (∀ x ∈ l, MN x) → (∀ x ∈ l.foldl joinStep o, MN x) ∧ AdjOk (l.foldl joinStep o)
  | [], o, h, hj, _ => ⟨h, hj⟩
  | n :: l, o, h, hj, hl => by
    obtain ⟨h1, h2⟩ := joinStep_ok o n h hj (hl n (by simp))
    exact fold_ok l _ h1 h2 fun x hx => hl x (by simp [hx])
theorem joinR_ok (l : List api_Node) (h : ∀ x ∈ l, MN x) : (∀ x ∈ joinR l, MN x) ∧ AdjOk (joinR l) := fold_ok l [] (by simp) trivial h

theorem ndeps_app (a b : List api_Node) : ndeps (a ++ b) = max (ndeps a) (ndeps b) := by
  induction a with
  | nil => simp [ndeps]
  | cons n a ih => simp only [List.cons_append, ndeps, ih]; omega
theorem joinStep_dep (o : List api_Node) (n : api_Node) : ndeps (joinStep o n) ≤ max (ndeps o) (ndep n) := by
  rcases snoc_cases o with rfl | ⟨o, x, rfl⟩
  · rw [joinStep_nil]
    split <;> simp [ndeps]
  · rw [joinStep_snoc]
    split
    · omega
    · split
      · simp only [ndeps_app, ndeps, ndep_eq]
        omega
      · simp only [ndeps_app, ndeps]
        omega
theorem fold_dep : ∀ (l o : List api_Node), ndeps (l.foldl joinStep o) ≤ max (ndeps o) (ndeps l)
  | [], o => by simp [ndeps]
  | n :: l, o => by
    have h1 := joinStep_dep o n
    have h2 := fold_dep l (joinStep o n)
    simp only [List.foldl_cons, ndeps]
    omega
theorem joinR_dep (l : List api_Node) : ndeps (joinR l) ≤ ndeps l := by
  have := fold_dep l []
  simpa [joinR, ndeps] using this

/-! ### The rows as they grow -/
structure Fine (i : Nat) (o : List api_Node) : Prop where
  mn : ∀ x ∈ o, MN x
  wt : nwts o ≤ 24 * i
  dep : ndeps o ≤ i

theorem Fine.snoc {i : Nat} {o : List api_Node} (h : Fine i o) {n : api_Node} (hn : MN n) (hw : nwt n ≤ 24) (hd : ndep n ≤ 1) : Fine (i + 1) (o ++ [n]) := by
  refine ⟨fun x hx => ?_, ?_, ?_⟩
  · rcases List.mem_append.1 hx with hx | hx
    · exact h.mn x hx
    · simp at hx; subst hx; exact hn
  · have := h.wt; simp only [nwts_app, nwts]; omega
  · have := h.dep; simp only [ndeps_app, ndeps]; omega

theorem Fine.fold {i : Nat} {a b : List api_Node} (h : Fine i (a ++ b)) {k : Str} (hk : k ∈ mKinds) {at' : List api_Attr} (ha : MAttrs at') (hw : k.length + attrsW at' ≤ 20) : Fine (i + 1) (a ++ [⟨k, [], [], at', joinR b⟩]) := by
  have hb := joinR_ok b fun x hx => h.mn x (by simp [hx])
  have hbw := joinR_wt b
  have hbd := joinR_dep b
  have hwt := h.wt
  have hdp := h.dep
  simp only [nwts_app, ndeps_app] at hwt hdp
  refine ⟨fun x hx => ?_, ?_, ?_⟩
  · rcases List.mem_append.1 hx with hx | hx
    · exact h.mn x (by simp [hx])
    · simp at hx; subst hx; exact .node _ _ _ hk ha hb.1 hb.2
  · simp only [nwts_app, nwts, nwt, strsW, List.length_nil]; omega
  · simp only [ndeps_app, ndeps, ndep]; omega

theorem attrs_w {a : List api_Attr} (h : MAttrs a) : attrsW a ≤ 12 := by
  rcases h with rfl | ⟨v, hv, rfl⟩
  · simp [attrsW]
  · simp only [mTexts, List.mem_cons, List.not_mem_nil, or_false] at hv
    rcases hv with rfl | rfl | rfl | rfl | rfl <;> simp [attrsW, sAlign]
theorem marks_w {m : List Str} (h : MMarks m) : strsW m ≤ 4 := by
  rcases h with rfl | rfl | rfl <;> simp [strsW]
theorem kind_w {k : Str} (h : k ∈ mKinds) : k.length = 4 := by
  simp only [mKinds, List.mem_cons, List.not_mem_nil, or_false] at h
  rcases h with rfl | rfl | rfl | rfl <;> rfl
theorem text_w {k : Str} (h : k ∈ mTexts) : k.length ≤ 6 := by
  simp only [mTexts, List.mem_cons, List.not_mem_nil, or_false] at h
  rcases h with rfl | rfl | rfl | rfl | rfl <;> simp

/-! ### The law's own text -/
theorem pick_eq (c n : Int) (hc : -9223372036854775808 ≤ c ∧ c ≤ 9223372036854775807) (hn : 0 < n) : ∃ p : Nat, diptychlaw5_pick c n = some (p : Int) ∧ (p : Int) < n := by
  have key : ∀ x : Int, 0 ≤ x → ∃ p : Nat, x.tmod n = (p : Int) ∧ (p : Int) < n := by
    intro x hx
    obtain ⟨p, hp⟩ := Int.eq_ofNat_of_zero_le (Int.tmod_nonneg n hx)
    exact ⟨p, hp, hp ▸ Int.tmod_lt_of_pos x hn⟩
  unfold diptychlaw5_pick
  by_cases h : c < 0
  · obtain ⟨p, h1, h2⟩ := key (0 - (c + 1)) (by omega)
    refine ⟨p, ?_, h2⟩
    simp only [h, decide_true, if_true]
    rw [chk_eq (by omega), w64_eq (x := c + 1) (by omega), w64_eq (by omega), h1]
  · obtain ⟨p, h1, h2⟩ := key c (by omega)
    refine ⟨p, ?_, h2⟩
    simp only [h, decide_false, Bool.false_eq_true, if_false]
    rw [chk_eq (by omega), h1]

def cellIn (y : diptychlaw5_Cell) : Prop := (-9223372036854775808 ≤ y.Op ∧ y.Op ≤ 9223372036854775807) ∧ (-9223372036854775808 ≤ y.A ∧ y.A ≤ 9223372036854775807) ∧ (-9223372036854775808 ≤ y.B ∧ y.B ≤ 9223372036854775807)

theorem made_step (y : diptychlaw5_Cell) (hy : cellIn y) (i : Nat) (hi : i < 19) (o : List api_Node) (h : Fine i o) : ∃ o', Fine (i + 1) o' ∧ ∀ suf, diptychlaw5_made_l0 (y :: suf) (i : Int) o = diptychlaw5_made_l0 suf ((i : Int) + 1) o' := by
  obtain ⟨hO, hA, hB⟩ := hy
  have hlen := nwts_len o
  have hwt := h.wt
  obtain ⟨pA, eA, bA⟩ := pick_eq y.A 4 hA (by omega)
  obtain ⟨kd, ek, mk⟩ := rd_lit mKinds pA (by simp; omega)
  obtain ⟨pB, eB, bB⟩ := pick_eq y.B 3 hB (by omega)
  obtain ⟨pO, eO, bO⟩ := pick_eq y.Op 8 hO (by omega)
  obtain ⟨pV, eV, bV⟩ := pick_eq (w64 (y.B.tdiv 3)) 5 (w64_range _) (by omega)
  obtain ⟨va, ev, mv⟩ := rd_lit mTexts pV (by simp; omega)
  obtain ⟨pT, eT, bT⟩ := pick_eq y.A 5 hA (by omega)
  obtain ⟨tx, et, mt⟩ := rd_lit mTexts pT (by simp; omega)
  have hmin : (if (6 : Int) < (o.length : Int) then (6 : Int) else (o.length : Int)) = ((min o.length 6 : Nat) : Int) := by split <;> omega
  obtain ⟨pK, eK, bK⟩ := pick_eq (w64 (y.B.tdiv 3)) (((min o.length 6 : Nat) : Int) + 1) (w64_range _) (by omega)
  have hkl := kind_w mk
  -- attributes
  obtain ⟨at', ea, ha⟩ : ∃ at', (((diptychlaw5_pick y.B (3 : Int)).bind fun p => if (p == (1 : Int)) = true then (diptychlaw5_pick (w64 (y.B.tdiv (3 : Int))) (5 : Int)).bind fun q => (rd mTexts q).bind fun v => some [({ Name := sAlign, Value := v } : api_Attr)] else some []) : Option (List api_Attr)) = some at' ∧ MAttrs at' := by
    rw [eB, eV]
    simp only [Option.bind_some, ev]
    by_cases e : (pB : Int) = 1
    · exact ⟨_, by simp [e], .inr ⟨va, mv, rfl⟩⟩
    · exact ⟨[], by simp [e], .inl rfl⟩
  have haw := attrs_w ha
  have hi' : decide ((i : Int) < 19) = true := by simp; omega
  by_cases h1 : (pO : Int) ≤ 3
  · -- a text
    obtain ⟨m, hm, em⟩ : ∃ m, MMarks m ∧ ∀ suf, diptychlaw5_made_l0 (y :: suf) (i : Int) o = diptychlaw5_made_l0 suf ((i : Int) + 1) (o ++ [⟨sText, tx, m, [], []⟩]) := by
      have h2 : (pO : Int) = 0 ∨ (pO : Int) = 1 ∨ (pO : Int) = 2 ∨ (pO : Int) = 3 := by omega
      have hv : ∀ f : Bool → Option (List api_Node), ((if ((pO : Int) == 0) = true then some ((pO : Int) == 0) else if ((pO : Int) == 1) = true then some ((pO : Int) == 1) else if ((pO : Int) == 2) = true then some ((pO : Int) == 2) else some ((pO : Int) == 3) : Option Bool)).bind f = f true := by
        intro f
        rcases h2 with e | e | e | e <;> simp [e]
      have happ : ∀ m : List Str, app 104 o [⟨sText, tx, m, [], []⟩] = some (o ++ [⟨sText, tx, m, [], []⟩]) := fun m => app_eq (by simp; omega)
      by_cases e1 : (pB : Int) = 1
      · refine ⟨[[98]], .inr (.inl rfl), fun suf => ?_⟩
        rw [diptychlaw5_made_l0]
        simp only [hi', if_true, eA, Option.bind_some, ek]
        rw [ea]
        simp only [Option.bind_some, eO]
        rw [hv]
        simp only [if_true, eT, Option.bind_some, et, eB, e1, beq_self_eq_true, happ]
        rfl
      · by_cases e2 : (pB : Int) = 2
        · refine ⟨[[98], [105]], .inr (.inr rfl), fun suf => ?_⟩
          rw [diptychlaw5_made_l0]
          simp only [hi', if_true, eA, Option.bind_some, ek]
          rw [ea]
          simp only [Option.bind_some, eO]
          rw [hv]
          simp only [if_true, eT, Option.bind_some, et, eB, e2, beq_self_eq_true, happ]
          rfl
        · refine ⟨[], .inl rfl, fun suf => ?_⟩
          rw [diptychlaw5_made_l0]
          simp only [hi', if_true, eA, Option.bind_some, ek]
          rw [ea]
          simp only [Option.bind_some, eO]
          rw [hv]
          have e1' : ((pB : Int) == 1) = false := by simpa using e1
          have e2' : ((pB : Int) == 2) = false := by simpa using e2
          simp only [if_true, eT, Option.bind_some, et, eB, e1', e2', Bool.false_eq_true, if_false, happ]
    have hmw := marks_w hm
    have htw := text_w mt
    refine ⟨_, h.snoc (.text tx m (mtext_one mt) hm) ?_ ?_, em⟩
    · simp only [nwt, attrsW, nwts, List.length_cons, List.length_nil]; omega
    · simp [ndep, ndeps]
  · have hv : ∀ f : Bool → Option (List api_Node), ((if ((pO : Int) == 0) = true then some ((pO : Int) == 0) else if ((pO : Int) == 1) = true then some ((pO : Int) == 1) else if ((pO : Int) == 2) = true then some ((pO : Int) == 2) else some ((pO : Int) == 3) : Option Bool)).bind f = f false := by
      intro f
      have a0 : ((pO : Int) == 0) = false := by simp; omega
      have a1 : ((pO : Int) == 1) = false := by simp; omega
      have a2 : ((pO : Int) == 2) = false := by simp; omega
      have a3 : ((pO : Int) == 3) = false := by simp; omega
      simp only [a0, a1, a2, a3, Bool.false_eq_true, if_false, Option.bind_some]
    by_cases h2 : (pO : Int) ≤ 6
    · -- a node of the last ones
      have h3 : (pO : Int) = 4 ∨ (pO : Int) = 5 ∨ (pO : Int) = 6 := by omega
      have hv2 : ∀ f : Bool → Option (List api_Node), ((if ((pO : Int) == 4) = true then some ((pO : Int) == 4) else if ((pO : Int) == 5) = true then some ((pO : Int) == 5) else some ((pO : Int) == 6) : Option Bool)).bind f = f true := by
        intro f
        rcases h3 with e | e | e <;> simp [e]
      have hpk : pK ≤ o.length := by omega
      obtain ⟨a, b, rfl, hbl⟩ : ∃ a b, o = a ++ b ∧ b.length = pK := ⟨o.take (o.length - pK), o.drop (o.length - pK), by simp, by simp; omega⟩
      refine ⟨_, h.fold (k := kd) (at' := at') mk ha (by omega), fun suf => ?_⟩
      have hsub : w64 (((a ++ b).length : Int) - (pK : Int)) = (a.length : Int) := by
        rw [w64_eq (by simp at hlen ⊢; omega)]
        simp; omega
      have hbw := joinR_wt b
      have hla := nwts_len a
      simp only [nwts_app] at hwt
      rw [diptychlaw5_made_l0]
      simp only [hi', if_true, eA, Option.bind_some, ek]
      rw [ea]
      simp only [Option.bind_some, eO]
      rw [hv]
      simp only [Bool.false_eq_true, if_false]
      rw [hv2]
      simp only [if_true]
      rw [hmin, w64_eq (x := ((min (a ++ b).length 6 : Nat) : Int) + 1) (by omega), eK]
      simp only [Option.bind_some]
      rw [hsub, sl_suf, sl_pre]
      simp only [Option.bind_some]
      rw [join_eq b (by omega)]
      simp only [Option.bind_some]
      rw [app_eq (by simp at hlen ⊢; omega)]
      simp only [Option.bind_some, List.nil_append]
      rw [app_eq (by simp at hlen ⊢; omega)]
      simp only [Option.bind_some]
    · -- a node of none
      have h3 : (pO : Int) = 7 := by omega
      have hv2 : ∀ f : Bool → Option (List api_Node), ((if ((pO : Int) == 4) = true then some ((pO : Int) == 4) else if ((pO : Int) == 5) = true then some ((pO : Int) == 5) else some ((pO : Int) == 6) : Option Bool)).bind f = f false := by
        intro f
        simp [h3]
      refine ⟨o ++ [⟨kd, [], [], at', []⟩], h.snoc (.node kd at' [] mk ha (by simp) trivial) (by simp only [nwt, strsW, nwts, List.length_nil]; omega) (by simp [ndep, ndeps]), fun suf => ?_⟩
      rw [diptychlaw5_made_l0]
      simp only [hi', if_true, eA, Option.bind_some, ek]
      rw [ea]
      simp only [Option.bind_some, eO]
      rw [hv]
      simp only [Bool.false_eq_true, if_false]
      rw [hv2]
      simp only [Bool.false_eq_true, if_false]
      rw [app_eq (by simp; omega)]
      simp only [Option.bind_some]

theorem made_l0 : ∀ (l : List diptychlaw5_Cell) (i : Nat) (o : List api_Node), (∀ y ∈ l, cellIn y) → i ≤ 19 → Fine i o → ∃ o' j, diptychlaw5_made_l0 l (i : Int) o = some o' ∧ j ≤ 19 ∧ Fine j o'
  | [], i, o, _, hi, h => ⟨o, i, by simp [diptychlaw5_made_l0], hi, h⟩
  | y :: l, i, o, hy, hi, h => by
    by_cases hlt : i < 19
    · obtain ⟨o1, h1, h2⟩ := made_step y (hy y (by simp)) i hlt o h
      obtain ⟨o', j, h3, h4, h5⟩ := made_l0 l (i + 1) o1 (fun x hx => hy x (by simp [hx])) (by omega) h1
      refine ⟨o', j, ?_, h4, h5⟩
      rw [h2, ← h3]
      rfl
    · have : decide ((i : Int) < 19) = false := by simp; omega
      exact ⟨o, i, by rw [diptychlaw5_made_l0]; simp [this], hi, h⟩

/-- What a document's kids are: well formed, joined, and small. -/
structure Kids (ks : List api_Node) : Prop where
  mn : ∀ x ∈ ks, MN x
  adj : AdjOk ks
  wt : nwts ks ≤ 456
  dep : ndeps ks ≤ 19

theorem made_eq (l : List diptychlaw5_Cell) (hl : l.length ≤ 9223372036854775807) (h : ∀ y ∈ l, cellIn y) : ∃ ks, diptychlaw5_made l = some ks ∧ Kids ks := by
  obtain ⟨o, j, h1, h2, h3⟩ := made_l0 l 0 [] h (by omega) ⟨by simp, by simp [nwts], by simp [ndeps]⟩
  have hw := h3.wt
  have hd := h3.dep
  have hk := joinR_ok o h3.mn
  have hjw := joinR_wt o
  have hjd := joinR_dep o
  refine ⟨joinR o, ?_, hk.1, hk.2, by omega, by omega⟩
  unfold diptychlaw5_made
  rw [chk_eq hl]
  have : diptychlaw5_made_l0 l 0 [] = some o := h1
  rw [this]
  simp only [Option.bind_some]
  rw [join_eq o (by omega)]
  rfl

theorem doc_eq (l : List diptychlaw5_Cell) (hl : l.length ≤ 9223372036854775807) (h : ∀ y ∈ l, cellIn y) : ∃ ks, diptychlaw5_doc l = some ⟨sDoc, [], [], [], ks⟩ ∧ Kids ks := by
  obtain ⟨ks, h1, h2⟩ := made_eq l hl h
  refine ⟨ks, ?_, h2⟩
  unfold diptychlaw5_doc
  rw [h1]
  rfl

end Go.Proofs.YtblielhogcnnkaaDoor
