/- What is cut out, and what is put in, plainly. -/
import Derived.Test.YtblielhogcnnkaaDoorPieceSpec
namespace Go.Proofs.YtblielhogcnnkaaDoor
set_option linter.unusedSimpArgs false
set_option linter.unusedVariables false
open Go

/-! ### One node in place of another -/
theorem adj_repl : ∀ (a : List api_Node) (k k' : api_Node) (b : List api_Node), AdjOk (a ++ k :: b) → (∀ z, alikeB z k' = alikeB z k) → (∀ z, alikeB k' z = alikeB k z) → AdjOk (a ++ k' :: b)
  | [], k, k', b, h, _, h2 => adj_head k k' b h h2
  | [x], k, k', b, h, h1, h2 => ⟨by rw [h1]; exact h.1, adj_head k k' b h.2 h2⟩
  | x :: y :: a, k, k', b, h, h1, h2 => ⟨h.1, adj_repl (y :: a) k k' b h.2 h1 h2⟩
theorem alike_no {x : api_Node} (h : isT x = false) (z : api_Node) : alikeB z x = false ∧ alikeB x z = false := by
  unfold alikeB
  rw [h]
  simp
theorem form_rep {x : api_Node} (hx : isT x = false) (fx : formB x = true) {n : api_Node} {q m a} (h : At n q m a) : formB n = true → formB (repN q n x) = true := by
  induction h with
  | nil n => exact fun _ => fx
  | cons n i k q m a hi hn hk h ih =>
    intro hf
    have hl := (List.getElem?_eq_some_iff.1 hi).1
    have hr := kids_row hf hn
    have hkf := hr.form k (List.mem_of_getElem? hi)
    have e := kid_split hi
    rw [repN_cons hi]
    refine form_kids hf hn ⟨fun y hy => ?_, ?_⟩
    · rcases List.mem_or_eq_of_mem_set hy with hy | rfl
      · exact hr.form y hy
      · exact ih hkf
    · rw [List.set_eq_take_append_cons_drop, if_pos hl]
      have ha := hr.adj
      rw [e] at ha
      have h1 := rep_notT q k x hk hx
      exact adj_repl _ k _ _ ha (fun z => by rw [(alike_no h1 z).1, (alike_no hk z).1]) (fun z => by rw [(alike_no h1 z).2, (alike_no hk z).2])
theorem ndeps_split {l : List api_Node} {i : Nat} {k : api_Node} (h : l[i]? = some k) : ndeps l = max (ndeps (l.take i)) (max (ndep k) (ndeps (l.drop (i + 1)))) := by
  conv => lhs; rw [kid_split h]
  rw [ndeps_app, ndeps]
theorem At.depth {n : api_Node} {q m a} (h : At n q m a) : q.length + ndep m ≤ ndep n := by
  induction h with
  | nil n => simp
  | cons n i k q m a hi hn hk h ih =>
    have := ndeps_split hi
    rw [ndep_eq n]
    simp only [List.length_cons]
    omega
theorem rep_dep {x : api_Node} {n : api_Node} {q m a} (h : At n q m a) : ndep (repN q n x) ≤ max (ndep n) (q.length + ndep x) := by
  induction h with
  | nil n => rw [repN]; simp; omega
  | cons n i k q m a hi hn hk h ih =>
    have hl := (List.getElem?_eq_some_iff.1 hi).1
    have h1 := ndeps_split hi
    rw [repN_cons hi, ndep_eq, ndep_eq n]
    simp only [List.length_cons]
    rw [List.set_eq_take_append_cons_drop, if_pos hl, ndeps_app, ndeps]
    omega

/-! ### The signs -/
theorem rep_kind {x : api_Node} {n : api_Node} {q m a} (h : At n q m a) (h1 : x.Kind = m.Kind) (h2 : x.Attrs = m.Attrs) (h3 : x.Text = m.Text) (h4 : x.Marks = m.Marks) : (repN q n x).Kind = n.Kind ∧ (repN q n x).Attrs = n.Attrs ∧ (repN q n x).Text = n.Text ∧ (repN q n x).Marks = n.Marks := by
  cases h with
  | nil n => exact ⟨h1, h2, h3, h4⟩
  | cons n i k q m a hi hn hk h => rw [repN_cons hi]; exact ⟨rfl, rfl, rfl, rfl⟩
theorem tk_split {l : List api_Node} {i : Nat} {k : api_Node} (h : l[i]? = some k) : tkL l = tkL (l.take i) ++ (tkN k ++ tkL (l.drop (i + 1))) := by
  conv => lhs; rw [kid_split h]
  rw [tkL_app, tkL]
theorem tkL_take (l : List api_Node) (i : Nat) : (tkL (l.take i)).length = nsizes (l.take i) := tkL_len _
theorem at_tk {n : api_Node} {q m a} (h : At n q m a) : ∃ P S, P.length = a ∧ tkL n.Kids = P ++ (tkL m.Kids ++ S) ∧ ∀ x : api_Node, isT x = false → x.Kind = m.Kind → x.Attrs = m.Attrs → tkL (repN q n x).Kids = P ++ (tkL x.Kids ++ S) := by
  induction h with
  | nil n => exact ⟨[], [], rfl, by simp, fun x _ _ _ => by simp [repN]⟩
  | cons n i k q m a hi hn hk h ih =>
    obtain ⟨P, S, h1, h2, h3⟩ := ih
    have hl := (List.getElem?_eq_some_iff.1 hi).1
    refine ⟨tkL (n.Kids.take i) ++ (Tk.opn k.Kind k.Attrs :: P), S ++ (Tk.cls :: tkL (n.Kids.drop (i + 1))), ?_, ?_, fun x hx hk1 hk2 => ?_⟩
    · simp only [List.length_append, List.length_cons, tkL_len]; omega
    · rw [tk_split hi, tkN_eq, if_neg (by simp [hk]), h2]
      simp only [List.append_assoc, List.cons_append, List.nil_append]
    · have hkk : (repN q k x).Kind = k.Kind ∧ (repN q k x).Attrs = k.Attrs := by
        cases h with
        | nil k => exact ⟨hk1, hk2⟩
        | cons k i' k' q m a hi' hn' hk' h => rw [repN_cons hi']; exact ⟨rfl, rfl⟩
      have hnt := rep_notT q k x hk hx
      rw [repN_cons hi]
      simp only
      rw [List.set_eq_take_append_cons_drop, if_pos hl, tkL_app, tkL, tkN_eq, if_neg (by simp [hnt]), h3 x hx hk1 hk2, hkk.1, hkk.2]
      simp only [List.append_assoc, List.cons_append, List.nil_append]

/-! ### Put -/
theorem concat_l0 : ∀ (ls : List (List api_Node)) (i : Int) (s : Nat), s + ls.flatten.length ≤ 1099511627776 → slices_Concat_api_Node_l0 ls i (s : Int) = some ((s + ls.flatten.length : Nat) : Int)
  | [], i, s, _ => by simp [slices_Concat_api_Node_l0]
  | y :: ls, i, s, h => by
    simp only [List.flatten_cons, List.length_append] at h
    have e : w64 ((s : Int) + (y.length : Int)) = ((s + y.length : Nat) : Int) := by rw [w64_eq (by omega)]; omega
    have g : decide (((s + y.length : Nat) : Int) < 0) = false := by simp; omega
    rw [slices_Concat_api_Node_l0, e, g]
    simp only [Bool.false_eq_true, if_false]
    rw [concat_l0 ls _ _ (by omega)]
    simp only [List.flatten_cons, List.length_append, Nat.add_assoc]
theorem concat_l1 : ∀ (ls : List (List api_Node)) (i : Int) (o : List api_Node), o.length + ls.flatten.length ≤ 1099511627776 → slices_Concat_api_Node_l1 ls i o = some (o ++ ls.flatten)
  | [], i, o, _ => by simp [slices_Concat_api_Node_l1]
  | y :: ls, i, o, h => by
    simp only [List.flatten_cons, List.length_append] at h
    rw [slices_Concat_api_Node_l1, app_eq (by omega)]
    simp only [Option.bind_some]
    rw [concat_l1 ls _ _ (by rw [List.length_append]; omega)]
    simp
theorem concat_eq (ls : List (List api_Node)) (hl : ls.length ≤ 9223372036854775807) (h : ls.flatten.length ≤ 1099511627776) : slices_Concat_api_Node ls = some ls.flatten := by
  unfold slices_Concat_api_Node
  have h0 := concat_l0 ls 0 0 (by omega)
  have h1 := concat_l1 ls 0 [] (by rw [List.length_nil]; omega)
  have e : ((0 : Nat) : Int) = 0 := rfl
  rw [e] at h0
  rw [chk_eq hl, h0]
  simp only [Option.bind_some]
  unfold slices_Grow_api_Node_x
  rw [chk_eq (by omega)]
  simp only [Option.bind_some]
  rw [chk_eq hl, h1]
  simp
theorem check_of {n : api_Node} (hf : formB n = true) (hd : depN n ≤ 40) (hs : nsize n ≤ 4000) : checkN n = 0 := by
  unfold checkN
  rw [hf, if_neg (by simp), if_neg (by omega), if_neg (by omega)]
theorem x_not2 {l : List api_Node} (h : FRow l) : checkN (⟨[120], [], [], [], l⟩ : api_Node) ≠ 2 := by
  have hf : formB (⟨[120], [], [], [], l⟩ : api_Node) = true := by
    have ht : isT (⟨[120], [], [], [], l⟩ : api_Node) = false := rfl
    have h1 : isName [120] = true := by decide +kernel
    have h3 : riseB [] = true := rfl
    rw [formB_eq, if_neg (by simp [ht])]
    simp [h1, h3, row_bs h]
  unfold checkN
  rw [hf]
  simp only [Bool.true_eq_false, if_false]
  split
  · simp
  · split <;> simp
theorem put_eq {n : api_Node} (hn : RN n) (hw : nwt n ≤ 1000000000) {f t q m a X Y Z} (h : Flat n f t q m a X Y Z) {l : List api_Node} (hl : ∀ x ∈ l, formB x = true) (hlw : nwts l ≤ 1000000000) (hd : ndep n ≤ 40) (hq : q.length + 1 + ndeps l ≤ 40) (hs : nsize n + nsizes l ≤ 4000 + szI Y) :
    ∃ K N, N = repN q n ({ m with Kids := K } : api_Node) ∧ piece_Put n (f : Int) (t : Int) l = some (N, 0) ∧ FRow K ∧ items K = X ++ (items l ++ Z) ∧ RN N ∧ nwt N ≤ 2 * nwt n + nwts l ∧ ndep N ≤ max (ndep n) (q.length + 1 + ndeps l) ∧ nsize N + szI Y = nsize n + nsizes l := by
  have hwh := where_flat hn h
  obtain ⟨h1, h2, h3, h4, h5⟩ := h
  have hr := kids_row (h1.form hn.form) h2
  have w1 := h1.wt
  have w2 := nwts_kids m
  obtain ⟨A, A', s1, a1, a2, a3, a4, a5, a6, a7, a8⟩ := split_at hr (by omega) (X := X) (Y := Y ++ Z) h3
  obtain ⟨B', B, s2, b1, b2, b3, b4, b5, b6, b7, b8⟩ := split_at hr (by omega) (X := X ++ Y) (Y := Z) (by rw [h3, List.append_assoc])
  have hall : ∀ x ∈ A ++ (l ++ B), formB x = true := by
    intro x hx
    rcases List.mem_append.1 hx with hx | hx
    · exact a1.form x hx
    · rcases List.mem_append.1 hx with hx | hx
      · exact hl x hx
      · exact b2.form x hx
  obtain ⟨kr, ki⟩ := joinR_row hall
  obtain ⟨lr, li⟩ := joinR_row hl
  have kw := joinR_wt (A ++ (l ++ B))
  have kd := joinR_dep (A ++ (l ++ B))
  rw [nwts_app, nwts_app] at kw
  rw [ndeps_app, ndeps_app] at kd
  rw [items_app, items_app, a3, b4] at ki
  have hlw2 := nwts_len (A ++ (l ++ B))
  rw [nwts_app, nwts_app] at hlw2
  generalize hK : joinR (A ++ (l ++ B)) = K at *
  have hx : isT ({ m with Kids := K } : api_Node) = false := h2
  have fx := form_kids (h1.form hn.form) h2 kr
  have wx : nwt ({ m with Kids := K } : api_Node) + nwts m.Kids = nwt m + nwts K := by
    rw [nwt_eq, nwt_eq m]; simp only; omega
  have hrw := rep_wt (x := ({ m with Kids := K } : api_Node)) h1
  have hrd := rep_dep (x := ({ m with Kids := K } : api_Node)) h1
  have hrs := rep_size hx h1 hn.nt
  have hdm := h1.depth
  have e1 : ndep ({ m with Kids := K } : api_Node) = 1 + ndeps K := by rw [ndep_eq]
  have e2 := ndep_eq m
  have e3 : nsize ({ m with Kids := K } : api_Node) = 2 + nsizes K := size_node hx
  have e4 := size_node h2
  have e5 : nsizes K = szI X + (nsizes l + szI Z) := by rw [← szI_items, ki, szI_app, szI_app, szI_items]
  have e6 : nsizes m.Kids = szI X + (szI Y + szI Z) := by rw [← szI_items, h3, szI_app, szI_app]
  have hN : RN (repN q n ({ m with Kids := K } : api_Node)) := by
    refine ⟨check_of (form_rep hx fx h1 hn.form) ?_ (by omega), rep_notT q n _ hn.nt hx, by omega⟩
    have := depN_le (repN q n ({ m with Kids := K } : api_Node))
    omega
  refine ⟨K, _, rfl, ?_, kr, ki, hN, by omega, by omega, by omega⟩
  have g2 := x_not2 lr
  have hjw := joinR_wt l
  have hxw : nwt (⟨[120], [], [], [], joinR l⟩ : api_Node) ≤ 1099511627776 := by
    rw [nwt_eq]; simp only [strsW, attrsW, List.length_cons, List.length_nil]; omega
  unfold piece_Put
  rw [hwh]
  simp only [Option.bind_some]
  have z2 : ((0 : Int) == 2) = false := rfl
  simp only [z2, Bool.false_eq_true, if_false]
  rw [njoin_eq l (by omega)]
  simp only [Option.bind_some]
  rw [check_eq _ hxw]
  have g2' : (checkN (⟨[120], [], [], [], joinR l⟩ : api_Node) == 2) = false := by simpa using g2
  simp only [Option.bind_some, g2', Bool.false_eq_true, if_false, bne_self_eq_false]
  rw [s1]
  simp only [Option.bind_some]
  rw [szI_app] at s2
  rw [s2]
  simp only [Option.bind_some]
  have hflat : ([A, l, B] : List (List api_Node)).flatten = A ++ (l ++ B) := by simp
  rw [concat_eq _ (by simp) (by rw [hflat]; omega), hflat]
  simp only [Option.bind_some]
  rw [njoin_eq _ (by rw [nwts_app, nwts_app]; omega), hK]
  simp only [Option.bind_some]
  rw [with_eq h1 hn.nt (by omega)]
  simp only [Option.bind_some]
  rw [check_eq _ (by have := hN.wt; omega), hN.ok]
  simp only [Option.bind_some, bne_self_eq_false, Bool.false_eq_true, if_false]
/-- What stands where something was put. -/
theorem put_flat {n : api_Node} {f t q m a X Y Z} (h : Flat n f t q m a X Y Z) {l : List api_Node} {K : List api_Node} (hK : items K = X ++ (items l ++ Z)) : Flat (repN q n ({ m with Kids := K } : api_Node)) f (f + nsizes l) q ({ m with Kids := K } : api_Node) a X (items l) Z :=
  ⟨At.rep (x := ({ m with Kids := K } : api_Node)) h.nt h.at_, h.nt, hK, h.sx, by rw [szI_items]⟩
/-- The signs and nodes, before and after. -/
theorem put_tk {n : api_Node} {f t q m a X Y Z} (h : Flat n f t q m a X Y Z) {l : List api_Node} {K : List api_Node} (hK : items K = X ++ (items l ++ Z)) : ∃ P S, P.length = f ∧ (P ++ tkI Y).length = t ∧ tkL n.Kids = P ++ (tkI Y ++ S) ∧ tkL (repN q n ({ m with Kids := K } : api_Node)).Kids = P ++ (tkL l ++ S) := by
  obtain ⟨P, S, h1, h2, h3⟩ := at_tk h.at_
  have e := h3 ({ m with Kids := K } : api_Node) h.nt rfl rfl
  have x1 := tkI_len X
  have x2 := tkI_len Y
  have x3 := h.sx
  have x4 := h.sy
  refine ⟨P ++ tkI X, tkI Z ++ S, by simp; omega, by simp; omega, ?_, ?_⟩
  · rw [h2, ← tkI_items, h.it, tkI_app, tkI_app]
    simp only [List.append_assoc]
  · rw [e]
    simp only
    rw [← tkI_items K, hK, tkI_app, tkI_app, tkI_items]
    simp only [List.append_assoc]
/-- Two documents of one kind with the same signs are one. -/
theorem doc_ext {a b : api_Node} (ha : RN a) (hb : RN b) (hk : a.Kind = b.Kind) (hat : a.Attrs = b.Attrs) (h : tkL a.Kids = tkL b.Kids) : a = b :=
  form_node_ext ha.form hb.form ha.nt hb.nt hk hat (row_ext (kids_row ha.form ha.nt) (kids_row hb.form hb.nt) h)

end Go.Proofs.YtblielhogcnnkaaDoor
