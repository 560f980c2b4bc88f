/- NodeTurns, plainly. -/
import Derived.Test.YtlgjbmgmoaphjaaDoorNodeShown
namespace Go.Proofs.YtlgjbmgmoaphjaaDoor
set_option linter.unusedSimpArgs false
set_option linter.unusedVariables false
open Go

def sg (m : List Str) (c : Int) : api_Node := ⟨sText, rune1 c, m, [], []⟩
def cutN (n : api_Node) : List api_Node := if isT n = true then (runes n.Text).map (sg n.Marks) else [n]

theorem fold_signs (m : List Str) (o : List api_Node) : ∀ (cs : List Int) (t : Str), t ≠ [] → (cs.map (sg m)).foldl joinStep (o ++ [⟨sText, t, m, [], []⟩]) = o ++ [⟨sText, t ++ runesStr cs, m, [], []⟩]
  | [], t, _ => by simp [runesStr]
  | c :: cs, t, ht => by
    have h1 : joinStep (o ++ [⟨sText, t, m, [], []⟩]) (sg m c) = o ++ [⟨sText, t ++ rune1 c, m, [], []⟩] := by
      rw [joinStep_snoc]
      have e1 : isT (sg m c) = true := rfl
      have e2 : ((sg m c).Text == []) = false := by simpa [sg] using rune1_ne c
      have e3 : isT (⟨sText, t, m, [], []⟩ : api_Node) = true := rfl
      simp only [e1, e2, e3, Bool.and_false, Bool.false_eq_true, if_false]
      simp [sg]
    rw [List.map_cons, List.foldl_cons, h1, fold_signs m o cs _ (by simp [ht])]
    simp [runesStr]
theorem joinStep_new {o : List api_Node} {n : api_Node} (hn : (isT n && n.Text == []) = false) (h : ∀ x, o.getLast? = some x → alikeB x n = false) : joinStep o n = o ++ [n] := by
  unfold joinStep
  rw [hn]
  simp only [Bool.false_eq_true, if_false]
  cases hl : o.getLast? with
  | none => rfl
  | some x =>
    have := h x hl
    unfold alikeB at this
    rw [Bool.and_comm (isT x)] at this
    simp only [this, Bool.false_eq_true, if_false]
theorem fold_cut {n : api_Node} (hn : MN n) (o : List api_Node) (h : ∀ x, o.getLast? = some x → alikeB x n = false) : (cutN n).foldl joinStep o = o ++ [n] := by
  cases hn with
  | text t m ht hm =>
    have hv := runes_valid (valid_mtext ht)
    have e : cutN ⟨sText, t, m, [], []⟩ = (runes t).map (sg m) := rfl
    rw [e]
    cases hr : runes t with
    | nil => rw [hr] at hv; exact (ht.1 hv.symm).elim
    | cons c cs =>
      rw [hr] at hv
      have h1 : joinStep o (sg m c) = o ++ [sg m c] := by
        refine joinStep_new ?_ fun x hx => ?_
        · have : ((sg m c).Text == []) = false := by simpa [sg] using rune1_ne c
          rw [this, Bool.and_false]
        · exact h x hx
      rw [List.map_cons, List.foldl_cons, h1]
      have h2 := fold_signs m o cs (rune1 c) (rune1_ne c)
      have e2 : sg m c = ⟨sText, rune1 c, m, [], []⟩ := rfl
      rw [e2, h2]
      have e3 : rune1 c ++ runesStr cs = t := by rw [← hv]; simp [runesStr]
      rw [e3]
  | node k a ks hk ha hs hj =>
    have hkk : isT (⟨k, [], [], a, ks⟩ : api_Node) = false := mn_kind hk
    have e : cutN ⟨k, [], [], a, ks⟩ = [⟨k, [], [], a, ks⟩] := by unfold cutN; rw [hkk]; rfl
    rw [e]
    show joinStep o _ = _
    exact joinStep_new (by rw [hkk]; rfl) h
theorem fold_cuts : ∀ (l : List api_Node) (o : List api_Node), (∀ x ∈ l, MN x) → AdjOk l → (∀ x y, o.getLast? = some x → l.head? = some y → alikeB x y = false) → (l.flatMap cutN).foldl joinStep o = o ++ l
  | [], o, _, _, _ => by simp
  | n :: l, o, h, hj, hl => by
    rw [List.flatMap_cons, List.foldl_append, fold_cut (h n (by simp)) o fun x hx => hl x n hx rfl]
    rw [fold_cuts l (o ++ [n]) (fun x hx => h x (by simp [hx])) ?_ ?_]
    · simp
    · cases l with
      | nil => trivial
      | cons z l => exact hj.2
    · intro x y hx hy
      simp at hx
      subst hx
      cases l with
      | nil => cases hy
      | cons z l => cases hy; exact hj.1
theorem join_cuts {l : List api_Node} (h : ∀ x ∈ l, MN x) (hj : AdjOk l) : joinR (l.flatMap cutN) = l := by
  have := fold_cuts l [] h hj (by simp)
  simpa [joinR] using this

theorem cut_plain {n : api_Node} (hn : MN n) : ∀ x ∈ cutN n, Plain x := by
  cases hn with
  | text t m ht hm =>
    intro x hx
    have e : cutN ⟨sText, t, m, [], []⟩ = (runes t).map (sg m) := rfl
    rw [e] at hx
    obtain ⟨c, _, rfl⟩ := List.mem_map.1 hx
    exact fun _ => ⟨rfl, rfl⟩
  | node k a ks hk ha hs hj =>
    have hkk : isT (⟨k, [], [], a, ks⟩ : api_Node) = false := mn_kind hk
    intro x hx
    have e : cutN ⟨k, [], [], a, ks⟩ = [⟨k, [], [], a, ks⟩] := by unfold cutN; rw [hkk]; rfl
    rw [e] at hx
    simp at hx
    subst hx
    intro h
    rw [hkk] at h
    cases h
theorem cut_wt {n : api_Node} (hn : MN n) : nwts (cutN n) ≤ 14 * nwt n := by
  cases hn with
  | text t m ht hm =>
    have e : cutN ⟨sText, t, m, [], []⟩ = (runes t).map (sg m) := rfl
    have hm' := marks_w hm
    have h1 : ∀ cs : List Int, nwts (cs.map (sg m)) ≤ 14 * cs.length := by
      intro cs
      induction cs with
      | nil => simp [nwts]
      | cons c cs ih =>
        have := (rune1_len c).2
        simp only [List.map_cons, nwts, sg, nwt, attrsW, List.length_cons, List.length_nil] at ih ⊢
        omega
    have h2 := h1 (runes t)
    have h3 := runes_le t
    rw [e]
    simp only [nwt]
    omega
  | node k a ks hk ha hs hj =>
    have hkk : isT (⟨k, [], [], a, ks⟩ : api_Node) = false := mn_kind hk
    have e : cutN ⟨k, [], [], a, ks⟩ = [⟨k, [], [], a, ks⟩] := by unfold cutN; rw [hkk]; rfl
    rw [e]
    simp only [nwts]
    omega
theorem cuts_wt : ∀ (l : List api_Node), (∀ x ∈ l, MN x) → nwts (l.flatMap cutN) ≤ 14 * nwts l
  | [], _ => by simp [nwts]
  | n :: l, h => by
    have h1 := cut_wt (h n (by simp))
    have h2 := cuts_wt l fun x hx => h x (by simp [hx])
    rw [List.flatMap_cons, nwts_app, nwts]
    omega

theorem turns_l3 (y : api_Node) : ∀ (suf pre : List Int) (out : List api_Node), runes y.Text = pre ++ suf → (out.length + suf.length) * 104 ≤ 140737488355328 →
    diptychlaw1_NodeTurns_l3 y suf (pre.length : Int) out = some (out ++ suf.map (sg y.Marks))
  | [], pre, out, _, _ => by simp [diptychlaw1_NodeTurns_l3]
  | c :: suf, pre, out, h, hb => by
    have hs : sl (runes y.Text) (pre.length : Int) ((pre.length : Int) + 1) = some [c] := by
      have h1 := sl_nat (l := runes y.Text) (a := pre.length) (b := pre.length + 1) (by omega) (by rw [h]; simp)
      have e : (pre.length : Int) + 1 = ((pre.length + 1 : Nat) : Int) := by omega
      rw [e, h1, List.drop_take, h, List.drop_left, show pre.length + 1 - pre.length = 1 by omega]
      rfl
    have h1 : runesStr [c] = rune1 c := by simp [runesStr]
    rw [diptychlaw1_NodeTurns_l3, hs]
    simp only [Option.bind_some, h1]
    rw [app_eq (by simp at hb ⊢; omega)]
    simp only [Option.bind_some]
    have e : (pre.length : Int) + 1 = ((pre ++ [c]).length : Int) := by simp
    rw [e, turns_l3 y suf (pre ++ [c]) _ (by rw [h]; simp) (by simp at hb ⊢; omega)]
    simp [sg]
theorem turns_l0 : ∀ (l : List api_Node) (i : Int) (out : List api_Node), (out.length + nwts l) * 104 ≤ 140737488355328 → diptychlaw1_NodeTurns_l0 l i out = some (out ++ l.flatMap cutN)
  | [], i, out, _ => by simp [diptychlaw1_NodeTurns_l0]
  | y :: l, i, out, hb => by
    simp only [nwts] at hb
    have hwt := nwt_eq y
    have hr := runes_le y.Text
    have hk : (y.Kind == ([116, 101, 120, 116] : Str)) = isT y := rfl
    rw [diptychlaw1_NodeTurns_l0, hk]
    by_cases ht : isT y = true
    · have e : cutN y = (runes y.Text).map (sg y.Marks) := by unfold cutN; rw [if_pos ht]
      have h0 := turns_l3 y (runes y.Text) [] out rfl (by omega)
      have h0' : diptychlaw1_NodeTurns_l3 y (runes y.Text) 0 out = _ := h0
      simp only [ht, Bool.not_true, Bool.false_eq_true, if_false]
      rw [chk_eq (by omega), h0']
      simp only [Option.bind_some]
      rw [turns_l0 l _ _ (by simp; omega), List.flatMap_cons, e]
      simp
    · have ht' : isT y = false := by simpa using ht
      have e : cutN y = [y] := by unfold cutN; rw [if_neg ht]
      simp only [ht', Bool.not_false, if_true]
      rw [app_eq (by simp; omega)]
      simp only [Option.bind_some]
      rw [turns_l0 l _ _ (by simp; omega), List.flatMap_cons, e]
      simp

theorem NodeTurns_true (l : List diptychlaw1_Cell) (at_ : Int) (hl : l.length ≤ 9223372036854775807) (h : ∀ y ∈ l, cellIn y) (ha : -9223372036854775808 ≤ at_ ∧ at_ ≤ 9223372036854775807) : diptychlaw1_NodeTurns l at_ = some true := by
  obtain ⟨ks, e1, e2⟩ := made_eq l hl h
  have hw := e2.wt
  have hcw := cuts_wt ks e2.mn
  have hkl := nwts_len ks
  have hcl := nwts_len (ks.flatMap cutN)
  have hjc := join_cuts e2.mn e2.adj
  have hpl : ∀ x ∈ ks.flatMap cutN, Plain x := by
    intro x hx
    obtain ⟨n, hn, hx⟩ := List.mem_flatMap.1 hx
    exact cut_plain (e2.mn n hn) x hx
  unfold diptychlaw1_NodeTurns
  rw [shown1_eq]
  simp only [Option.bind_some, Bool.not_true, Bool.false_eq_true, if_false]
  rw [e1]
  simp only [Option.bind_some]
  rw [chk_eq (by omega), turns_l0 ks 0 [] (by simp; omega)]
  simp only [Option.bind_some, List.nil_append]
  generalize hc : ks.flatMap cutN = c at *
  obtain ⟨p, ep, bp⟩ := pick_eq at_ ((c.length : Int) + 1) ha (by omega)
  rw [w64_eq (by omega), ep]
  simp only [Option.bind_some]
  have hp : p ≤ c.length := by omega
  have s1 : sl c 0 (p : Int) = some (c.take p) := by
    have := sl_nat (l := c) (a := 0) (b := p) (by omega) hp
    simpa using this
  have s2 : sl c (p : Int) (c.length : Int) = some (c.drop p) := by
    have := sl_nat (l := c) (a := p) (b := c.length) hp (Nat.le_refl _)
    simpa using this
  have hsp : c = c.take p ++ c.drop p := (List.take_append_drop p c).symm
  have hws : nwts (c.take p) + nwts (c.drop p) = nwts c := by
    conv => rhs; rw [hsp]
    rw [nwts_app]
  have j1 := joinR_wt (c.take p)
  have j2 := joinR_wt (c.drop p)
  have l1 := nwts_len (joinR (c.take p))
  have l2 := nwts_len (joinR (c.drop p))
  rw [s1]
  simp only [Option.bind_some]
  rw [njoin_eq _ (by omega)]
  simp only [Option.bind_some]
  rw [app_eq (by simp; omega)]
  simp only [Option.bind_some, List.nil_append]
  rw [s2]
  simp only [Option.bind_some]
  rw [njoin_eq _ (by omega)]
  simp only [Option.bind_some]
  rw [app_eq (by omega)]
  simp only [Option.bind_some]
  rw [njoin_eq c (by omega), hjc]
  simp only [Option.bind_some]
  rw [rsameAll_eq ks (by omega)]
  simp only [Option.bind_some, if_true]
  rw [njoin_eq _ (by rw [nwts_app]; omega), joinR_parts _ _ (fun x hx => hpl x (List.mem_of_mem_take hx)) (fun x hx => hpl x (List.mem_of_mem_drop hx)), ← hsp, hjc]
  simp only [Option.bind_some]
  rw [rsameAll_eq ks (by omega)]
  rfl

end Go.Proofs.YtlgjbmgmoaphjaaDoor
