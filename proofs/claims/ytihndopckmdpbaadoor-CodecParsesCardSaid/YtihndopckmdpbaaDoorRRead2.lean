/- The reference reads what was written. -/
import Derived.Test.YtihndopckmdpbaaDoorRRead
namespace Go.Proofs.YtihndopckmdpbaaDoor
set_option linter.unusedSimpArgs false
set_option linter.unusedVariables false
open Go

theorem rname_app {S w t : Str} {c : UInt8} {bad : Bool} (h : (w ++ c :: t) <:+ S) (hl : S.length ≤ 1099511627776) (hw : w.all letter = true) (hc : letter c = false) : diptychref2_Reader_letters_x (rs S (w ++ c :: t) bad) = some (w, rs S (c :: t) bad) := by
  rw [rletters_eq h hl]
  obtain ⟨h1, h2⟩ := tw_name (w := w) (t := c :: t) hw (fun d hd => by cases hd; exact hc)
  rw [h1, h2]

/-! ### Marks -/
theorem rmarks_l0 (S t : Str) (bad : Bool) (hl : S.length ≤ 1073741824) : ∀ (m : List Str) (acc : List Str) (k : Nat), (∀ y ∈ m, y.all letter = true) → (Lib.joinTail [44] m ++ 62 :: t) <:+ S → (acc.length + m.length) * 16 ≤ 140737488355328 → m.length < k →
    diptychref2_Reader_node_x_l0 k acc (rs S (Lib.joinTail [44] m ++ 62 :: t) bad) = some (acc ++ m, rs S (62 :: t) bad)
  | [], acc, k, hm, h, ha, hk => by
    obtain ⟨k, rfl⟩ : ∃ j, k = j + 1 := ⟨k - 1, by omega⟩
    have e : Lib.joinTail [44] ([] : List Str) ++ 62 :: t = 62 :: t := by simp [Lib.joinTail]
    rw [e] at h ⊢
    rw [diptychref2_Reader_node_x_l0, ris_eq h 44 44 rfl]
    simp
  | x :: m, acc, k, hm, h, ha, hk => by
    obtain ⟨k, rfl⟩ : ∃ j, k = j + 1 := ⟨k - 1, by omega⟩
    have e : Lib.joinTail [44] (x :: m) ++ 62 :: t = 44 :: (x ++ (Lib.joinTail [44] m ++ 62 :: t)) := by rw [joinTail_cons]; simp
    rw [e] at h ⊢
    have h1 := suf_tail h
    have h2 := suf_app h1
    rw [diptychref2_Reader_node_x_l0, ris_eq h 44 44 rfl]
    simp only [List.head?_cons, decide_true, Option.bind_some, if_true]
    rw [reat_eq h (by omega) 44 44 rfl]
    simp only [List.head?_cons, if_true, List.tail_cons, Option.bind_some]
    have hn : diptychref2_Reader_letters_x (rs S (x ++ (Lib.joinTail [44] m ++ 62 :: t)) bad) = some (x, rs S (Lib.joinTail [44] m ++ 62 :: t) bad) := by
      cases m with
      | nil =>
        have e2 : Lib.joinTail [44] ([] : List Str) ++ 62 :: t = 62 :: t := by simp [Lib.joinTail]
        rw [e2] at h1 ⊢
        exact rname_app h1 (by omega) (hm x (by simp)) nl62
      | cons y m =>
        have e2 : Lib.joinTail [44] (y :: m) ++ 62 :: t = 44 :: (y ++ (Lib.joinTail [44] m ++ 62 :: t)) := by rw [joinTail_cons]; simp
        rw [e2] at h1 ⊢
        exact rname_app h1 (by omega) (hm x (by simp)) nl44
    rw [hn]
    simp only [Option.bind_some]
    rw [app16 acc x m.length (by simp only [List.length_cons] at ha; omega)]
    simp only [Option.bind_some]
    simp only [List.length_cons] at ha hk
    rw [rmarks_l0 S t bad hl m (acc ++ [x]) k (fun y hy => hm y (by simp [hy])) h2 (by simp only [List.length_append, List.length_cons, List.length_nil]; omega) (by omega)]
    simp

/-! ### Attributes -/
theorem rattr_step {S R : Str} {k : Nat} {sign : Int} {c : UInt8} {acc : List api_Attr} {x : api_Attr} (hs : sign = (c.toNat : Int)) (h : (c :: (x.Name ++ 61 :: (qt x.Value ++ R))) <:+ S) (hl : S.length ≤ 1073741824) (hx : x.Name.all letter = true) (ha : acc.length ≤ 4398046511103) :
    diptychref2_Reader_node_x_l2 (k + 1) sign acc (rs S (c :: (x.Name ++ 61 :: (qt x.Value ++ R))) false) = diptychref2_Reader_node_x_l2 k 32 (acc ++ [x]) (rs S R false) := by
  have h1 := suf_tail h
  have h2 := suf_app h1
  have h3 := suf_tail h2
  rw [diptychref2_Reader_node_x_l2, ris_eq h c sign hs]
  simp only [List.head?_cons, decide_true, Option.bind_some, if_true, rs_B, Bool.not_false]
  rw [reat_eq h (by omega) c sign hs]
  simp only [List.head?_cons, if_true, List.tail_cons, Option.bind_some]
  rw [rname_app h1 (by omega) hx nl61]
  simp only [Option.bind_some]
  rw [reat_eq h2 (by omega) 61 61 rfl]
  simp only [List.head?_cons, if_true, List.tail_cons, Option.bind_some]
  rw [rquoted_qt h3 hl]
  simp only [Option.bind_some]
  have hap : app 32 acc [(⟨x.Name, x.Value⟩ : api_Attr)] = some (acc ++ [x]) := app32 acc x 0 (by omega)
  rw [hap]
  rfl
theorem rattrs_l2 (S t : Str) (hl : S.length ≤ 1073741824) : ∀ (l : List api_Attr) (acc : List api_Attr) (k : Nat), (∀ y ∈ l, y.Name.all letter = true) → (Lib.joinTail [32] (l.map atx) ++ 41 :: t) <:+ S → (acc.length + l.length) * 32 ≤ 140737488355328 → l.length < k →
    diptychref2_Reader_node_x_l2 k 32 acc (rs S (Lib.joinTail [32] (l.map atx) ++ 41 :: t) false) = some (acc ++ l, rs S (41 :: t) false)
  | [], acc, k, hm, h, ha, hk => by
    obtain ⟨k, rfl⟩ : ∃ j, k = j + 1 := ⟨k - 1, by omega⟩
    have e : Lib.joinTail [32] (([] : List api_Attr).map atx) ++ 41 :: t = 41 :: t := by simp [Lib.joinTail]
    rw [e] at h ⊢
    rw [diptychref2_Reader_node_x_l2, ris_eq h 32 32 rfl]
    simp
  | x :: l, acc, k, hm, h, ha, hk => by
    obtain ⟨k, rfl⟩ : ∃ j, k = j + 1 := ⟨k - 1, by omega⟩
    have e : Lib.joinTail [32] ((x :: l).map atx) ++ 41 :: t = 32 :: (x.Name ++ 61 :: (qt x.Value ++ (Lib.joinTail [32] (l.map atx) ++ 41 :: t))) := by rw [List.map_cons, joinTail_cons]; simp [atx]
    rw [e] at h ⊢
    have h3 := suf_app (suf_tail (suf_app (suf_tail h)))
    simp only [List.length_cons] at ha hk
    have ha' : acc.length ≤ 4398046511103 := by omega
    rw [rattr_step (c := 32) (sign := 32) (acc := acc) (k := k) rfl h hl (hm x (by simp)) ha', rattrs_l2 S t hl l (acc ++ [x]) k (fun y hy => hm y (by simp [hy])) h3 (by simp only [List.length_append, List.length_cons, List.length_nil]; omega) (by omega)]
    simp

/-! ### Kids -/
theorem rkids_l0 (S t : Str) (hl : S.length ≤ 1073741824) (left : Int) (f : Int → diptychref2_Reader → Option (api_Node × diptychref2_Reader)) : ∀ (ks : List api_Node) (acc : List api_Node) (k : Nat), (∀ n ∈ ks, formB n = true) →
    (∀ n ∈ ks, ∀ t : Str, t.head? ≠ some 60 → (writeN n ++ t) <:+ S → f left (rs S (writeN n ++ t) false) = some (n, rs S t false)) → (writeL ks ++ 93 :: t) <:+ S → (acc.length + ks.length) * 104 ≤ 140737488355328 → ks.length < k →
    diptychref2_Reader_nodes_x_l0 left f k acc (rs S (writeL ks ++ 93 :: t) false) = some (acc ++ ks, rs S (93 :: t) false)
  | [], acc, k, _, _, h, _, hk => by
    obtain ⟨k, rfl⟩ : ∃ j, k = j + 1 := ⟨k - 1, by omega⟩
    have e : writeL [] ++ 93 :: t = 93 :: t := by simp [writeL]
    rw [e] at h ⊢
    have hle := suf_le h
    simp only [List.length_cons] at hle
    rw [diptychref2_Reader_nodes_x_l0]
    simp only [rs_B, Bool.not_false, if_true, rs_S]
    have g : decide ((rs S (93 :: t) false).At < (S.length : Int)) = true := by
      have : (rs S (93 :: t) false).At = (S.length : Int) - ((93 :: t).length : Int) := rfl
      rw [this]
      exact decide_eq_true (by simp only [List.length_cons]; omega)
    refine (if_pos g).trans ?_
    rw [ris_eq h 93 93 rfl]
    simp
  | n :: ks, acc, k, hf, hr, h, ha, hk => by
    obtain ⟨k, rfl⟩ : ∃ j, k = j + 1 := ⟨k - 1, by omega⟩
    have e : writeL (n :: ks) ++ 93 :: t = writeN n ++ (writeL ks ++ 93 :: t) := by simp [writeL]
    rw [e] at h ⊢
    have h2 := suf_app h
    obtain ⟨c, hc, hor⟩ := write_head (hf n (by simp)) (writeL ks ++ 93 :: t)
    have hc93 : c ≠ 93 := by
      rintro rfl
      rcases hor with ⟨_, h⟩ | ⟨_, h⟩
      · cases h
      · revert h; decide
    have hnx : (writeL ks ++ 93 :: t).head? ≠ some 60 := by
      cases ks with
      | nil => simp [writeL]
      | cons m ks =>
        obtain ⟨d, hd', hor'⟩ := write_head (hf m (by simp)) (writeL ks ++ 93 :: t)
        have e : writeL (m :: ks) ++ 93 :: t = writeN m ++ (writeL ks ++ 93 :: t) := by simp [writeL]
        rw [e, hd']
        rintro h
        cases h
        rcases hor' with ⟨_, h⟩ | ⟨_, h⟩
        · cases h
        · revert h; decide
    have hrd := hr n (by simp) (writeL ks ++ 93 :: t) hnx h
    have hne : (writeN n ++ (writeL ks ++ 93 :: t)).length ≠ 0 := by
      intro h0
      rw [List.eq_nil_of_length_eq_zero h0] at hc
      cases hc
    have hle := suf_le h
    have g : decide ((rs S (writeN n ++ (writeL ks ++ 93 :: t)) false).At < (S.length : Int)) = true := by
      have : (rs S (writeN n ++ (writeL ks ++ 93 :: t)) false).At = (S.length : Int) - ((writeN n ++ (writeL ks ++ 93 :: t)).length : Int) := rfl
      rw [this]
      exact decide_eq_true (by omega)
    rw [diptychref2_Reader_nodes_x_l0]
    simp only [rs_B, Bool.not_false, if_true, rs_S]
    refine (if_pos g).trans ?_
    rw [ris_eq h 93 93 rfl, hc]
    simp only [Option.some.injEq, hc93, decide_false, Option.bind_some, Bool.not_false, if_true]
    rw [hrd]
    simp only [Option.bind_some]
    simp only [List.length_cons] at ha hk
    have hap : app 104 acc [n] = some (acc ++ [n]) := app_eq (by simp only [List.length_cons, List.length_nil]; omega)
    rw [hap]
    simp only [Option.bind_some]
    rw [rkids_l0 S t hl left f ks (acc ++ [n]) k (fun m hm => hf m (List.mem_cons_of_mem _ hm)) (fun m hm => hr m (List.mem_cons_of_mem _ hm)) h2 (by simp only [List.length_append, List.length_cons, List.length_nil]; omega) (by omega)]
    simp

theorem rnode_read_k (S : Str) (hl : S.length ≤ 1073741824) (n : api_Node) : formB n = true → nwt n ≤ 1073741824 → ∀ kr, 2 * ndep n ≤ kr → ∀ left : Nat, ndep n ≤ left → left ≤ 1099511627776 → ∀ t : Str, (isT n = true → t.head? ≠ some 60) → (writeN n ++ t) <:+ S → diptychref2_Reader_node_x_k kr (left : Int) (rs S (writeN n ++ t) false) = some (n, rs S t false) := by
  induction n using api_Node.ind with
  | h n ih =>
    intro hf hw kr hk left hleft hleft2 t ht hb
    have hd' := ndep_eq n
    obtain ⟨kr, rfl⟩ : ∃ j, kr = j + 1 + 1 := ⟨kr - 2, by omega⟩
    obtain ⟨left, rfl⟩ : ∃ j, left = j + 1 := ⟨left - 1, by omega⟩
    have hwt := nwt_eq n
    have hkl := nwts_len n.Kids
    have hml := strsW_n n.Marks
    have hal := attrsW_n n.Attrs
    obtain ⟨c, hc, hor⟩ := write_head hf t
    have g0 : (((left + 1 : Nat) : Int) == 0) = false := by rw [beq_eq_false_iff_ne]; omega
    rw [diptychref2_Reader_node_x_k]
    simp only [g0, Bool.false_eq_true, if_false]
    rw [ris_eq hb 34 34 rfl, hc]
    cases hT : isT n with
    | true =>
      have hc34 : c = 34 := by
        rcases hor with ⟨_, h⟩ | ⟨h, _⟩
        · exact h
        · rw [hT] at h; cases h
      subst hc34
      simp only [decide_true, Option.bind_some, if_true]
      obtain ⟨e, hr⟩ := formed_text hf hT
      have ew : writeN n ++ t = qt n.Text ++ (hd n ++ t) := by rw [writeN_eq, if_pos hT]; simp
      rw [ew] at hb ⊢
      rw [rquoted_qt hb hl]
      simp only [Option.bind_some]
      have h1 := suf_app hb
      cases hM : n.Marks with
      | nil =>
        have eh : hd n ++ t = t := by unfold hd; simp [hT, hM]
        rw [eh] at h1 ⊢
        rw [ris_eq h1 60 60 rfl]
        simp only [ht hT, decide_false, Option.bind_some, Bool.false_eq_true, if_false]
        rw [hM] at e
        rw [e]
      | cons x m =>
        have eh : hd n ++ t = 60 :: (x ++ (Lib.joinTail [44] m ++ 62 :: t)) := by unfold hd; simp [hT, hM, Lib.join_cons]
        rw [eh] at h1 ⊢
        have h2 := suf_tail h1
        have h3 := suf_app h2
        have hml : (x :: m).length ≤ 1073741824 := by rw [← hM]; omega
        simp only [List.length_cons] at hml
        have hlet : ∀ y ∈ x :: m, y.all letter = true := by rw [← hM]; exact rise_letters hr
        rw [ris_eq h1 60 60 rfl]
        simp only [List.head?_cons, decide_true, Option.bind_some, if_true]
        rw [reat_eq h1 (by omega) 60 60 rfl]
        simp only [List.head?_cons, if_true, List.tail_cons, Option.bind_some]
        have hn : diptychref2_Reader_letters_x (rs S (x ++ (Lib.joinTail [44] m ++ 62 :: t)) false) = some (x, rs S (Lib.joinTail [44] m ++ 62 :: t) false) := by
          cases m with
          | nil =>
            have e2 : Lib.joinTail [44] ([] : List Str) ++ 62 :: t = 62 :: t := by simp [Lib.joinTail]
            rw [e2] at h2 ⊢
            exact rname_app h2 (by omega) (hlet x (by simp)) nl62
          | cons y m =>
            have e2 : Lib.joinTail [44] (y :: m) ++ 62 :: t = 44 :: (y ++ (Lib.joinTail [44] m ++ 62 :: t)) := by rw [joinTail_cons]; simp
            rw [e2] at h2 ⊢
            exact rname_app h2 (by omega) (hlet x (by simp)) nl44
        rw [hn]
        simp only [Option.bind_some]
        have hap : app 16 ([] : List Str) [x] = some [x] := app_eq (by simp)
        rw [hap]
        simp only [Option.bind_some]
        have hm0 : (lim fun k => diptychref2_Reader_node_x_l0 k [x] (rs S (Lib.joinTail [44] m ++ 62 :: t) false)) = some ([x] ++ m, rs S (62 :: t) false) :=
          lim_of (m.length + 1) fun k hk => rmarks_l0 S t false hl m [x] k (fun y hy => hlet y (by simp [hy])) h3 (by simp only [List.length_cons, List.length_nil]; omega) (by omega)
        rw [hm0]
        simp only [Option.bind_some]
        rw [reat_eq (suf_app h3) (by omega) 62 62 rfl]
        simp only [List.head?_cons, if_true, List.tail_cons, Option.bind_some, List.cons_append, List.nil_append]
        rw [hM] at e
        rw [e]
    | false =>
      have hc34 : c ≠ 34 := by
        rintro rfl
        rcases hor with ⟨h, _⟩ | ⟨_, h⟩
        · rw [hT] at h; cases h
        · revert h; decide
      simp only [Option.some.injEq, hc34, decide_false, Option.bind_some, Bool.false_eq_true, if_false]
      obtain ⟨e, h1, h2, h3⟩ := formed_node hf hT
      have hname := isName_letters h1
      have ew : writeN n ++ t = hd n ++ 91 :: (writeL n.Kids ++ 93 :: t) := by rw [writeN_eq, if_neg (by simp [hT])]; simp
      rw [ew] at hb ⊢
      have hb1 := suf_app hb
      have hb2 := suf_tail hb1
      -- behind the head
      have hkids : (lim fun k => diptychref2_Reader_nodes_x_l0 (left : Int) (diptychref2_Reader_node_x_k kr) k [] (rs S (writeL n.Kids ++ 93 :: t) false)) = some ([] ++ n.Kids, rs S (93 :: t) false) := lim_of (n.Kids.length + 1) fun k hk' =>
        rkids_l0 S t hl (left : Int) (diptychref2_Reader_node_x_k kr) n.Kids [] k h3 (fun m hm t' ht' hb' => ih m hm (h3 m hm) (by have := nwt_mem hm; omega) kr (by have := ndep_mem hm; omega) left (by have := ndep_mem hm; omega) (by omega) t' (fun _ => ht') hb') hb2 (by simp only [List.length_nil]; omega) (by omega)
      have rest : ∀ (A : List api_Attr), n.Attrs = A → ((diptychref2_Reader_eat_x (91 : Int) (rs S (91 :: (writeL n.Kids ++ 93 :: t)) false)).bind fun reader_63 =>
          ((diptychref2_Reader_nodes_x_k (kr + 1)) (w64 (((left + 1 : Nat) : Int) - (1 : Int))) reader_63).bind fun (r_64, reader_65) =>
          (diptychref2_Reader_eat_x (93 : Int) reader_65).bind fun reader_66 =>
          some (({ Kind := n.Kind, Text := ([] : Str), Marks := ([] : List Str), Attrs := A, Kids := r_64 } : api_Node), reader_66)) = some (n, rs S t false) := by
        intro A hA
        rw [reat_eq hb1 (by omega) 91 91 rfl]
        simp only [List.head?_cons, if_true, List.tail_cons, Option.bind_some]
        have el : w64 (((left + 1 : Nat) : Int) - (1 : Int)) = (left : Int) := by rw [w64_eq (by omega)]; omega
        rw [el, diptychref2_Reader_nodes_x_k, hkids]
        simp only [Option.bind_some, List.nil_append]
        rw [reat_eq (suf_app hb2) (by omega) 93 93 rfl]
        simp only [List.head?_cons, if_true, List.tail_cons, Option.bind_some]
        rw [← hA, ← e]
      cases hA : n.Attrs with
      | nil =>
        have eh : hd n = n.Kind := by unfold hd; simp [hT, hA]
        rw [eh] at hb ⊢
        rw [rname_app hb (by omega) hname nl91]
        simp only [Option.bind_some]
        rw [ris_eq hb1 40 40 rfl]
        have g : ¬ ((91 :: (writeL n.Kids ++ 93 :: t)).head? = some (40 : UInt8)) := by simp
        simp only [g, decide_false, Option.bind_some, Bool.false_eq_true, if_false]
        exact rest [] hA
      | cons x l =>
        have eh : hd n ++ 91 :: (writeL n.Kids ++ 93 :: t) = n.Kind ++ 40 :: (x.Name ++ 61 :: (qt x.Value ++ (Lib.joinTail [32] (l.map atx) ++ 41 :: (91 :: (writeL n.Kids ++ 93 :: t))))) := by
          unfold hd
          simp [hT, hA, Lib.join_cons, atx]
        rw [eh] at hb ⊢
        have hb3 := suf_app hb
        have hb4 := suf_app (suf_tail (suf_app (suf_tail hb3)))
        rw [rname_app hb (by omega) hname nl40]
        simp only [Option.bind_some]
        rw [ris_eq hb3 40 40 rfl]
        simp only [List.head?_cons, decide_true, Option.bind_some, if_true]
        have hlet : ∀ y ∈ x :: l, y.Name.all letter = true := by
          intro y hy
          rw [hA] at h2
          exact rise_letters h2 y.Name (List.mem_map.2 ⟨y, hy, rfl⟩)
        have hal : (x :: l).length ≤ 1073741824 := by rw [← hA]; omega
        simp only [List.length_cons] at hal
        have hl2 : (lim fun k => diptychref2_Reader_node_x_l2 k (40 : Int) ([] : List api_Attr) (rs S (40 :: (x.Name ++ 61 :: (qt x.Value ++ (Lib.joinTail [32] (l.map atx) ++ 41 :: (91 :: (writeL n.Kids ++ 93 :: t)))))) false)) = some (x :: l, rs S (41 :: (91 :: (writeL n.Kids ++ 93 :: t))) false) := lim_of (l.length + 2) fun k hk' => by
          obtain ⟨k, rfl⟩ : ∃ j, k = j + 1 := ⟨k - 1, by omega⟩
          rw [rattr_step (c := 40) (sign := 40) (acc := []) (k := k) rfl hb3 hl (hlet x (by simp)) (by simp), rattrs_l2 S _ hl l _ k (fun y hy => hlet y (by simp [hy])) hb4 (by simp only [List.length_append, List.length_cons, List.length_nil]; omega) (by omega)]
          simp
        rw [hl2]
        simp only [Option.bind_some]
        rw [reat_eq (suf_app hb4) (by omega) 41 41 rfl]
        simp only [List.head?_cons, if_true, List.tail_cons, Option.bind_some]
        exact rest (x :: l) hA

theorem ndeps_le_writeL : ∀ (l : List api_Node), (∀ n ∈ l, formB n = true) → (∀ n ∈ l, formB n = true → ndep n ≤ (writeN n).length) → ndeps l ≤ (writeL l).length
  | [], _, _ => by simp [ndeps]
  | n :: l, hf, h => by
    have h1 := h n (by simp) (hf n (by simp))
    have h2 := ndeps_le_writeL l (fun x hx => hf x (by simp [hx])) fun x hx => h x (by simp [hx])
    simp only [ndeps, writeL, List.length_append]; omega
theorem ndep_le_write (n : api_Node) : formB n = true → ndep n ≤ (writeN n).length := by
  induction n using api_Node.ind with
  | h n ih =>
    intro hf
    rw [ndep_eq, writeN_eq]
    cases hT : isT n with
    | true =>
      obtain ⟨e, _⟩ := formed_text hf hT
      rw [e]
      simp [ndeps, qt]
    | false =>
      obtain ⟨_, _, _, h3⟩ := formed_node hf hT
      have := ndeps_le_writeL n.Kids h3 ih
      simp only [Bool.false_eq_true, if_false, List.length_append, List.length_cons, List.length_nil]
      omega

theorem rs_start (S : Str) : ({ S := S, At := (0 : Int), Bad := false } : diptychref2_Reader) = rs S S false := by
  unfold rs
  rw [Int.sub_self]
theorem rparse_write (n : api_Node) (hf : formB n = true) (hw : nwt n ≤ 268435456) : diptychref2_Parse (writeN n) = some (if checkN n = 0 then (n, 0) else (zeroN, checkN n)) := by
  have hle := writeN_le n
  have hdw := ndep_le_write n hf
  have h1 : diptychref2_Reader_node_x (((writeN n).length + 1 : Nat) : Int) (rs (writeN n) (writeN n) false) = some (n, rs (writeN n) [] false) := by
    unfold diptychref2_Reader_node_x
    refine lim_of (2 * ndep n) fun kr hk => ?_
    have := rnode_read_k (writeN n) (by omega) n hf (by omega) kr hk ((writeN n).length + 1) (by omega) (by omega) [] (by simp) (by rw [List.append_nil]; exact List.suffix_refl _)
    rw [List.append_nil] at this
    exact this
  unfold diptychref2_Parse diptychref2_Reader_Node_x
  rw [rs_start, rs_S]
  have e : w64 (((writeN n).length : Int) + 1) = (((writeN n).length + 1 : Nat) : Int) := by rw [w64_eq (by omega)]; omega
  rw [e, h1]
  have hA : (rs (writeN n) [] false).At = ((writeN n).length : Int) := by simp [rs]
  simp only [Option.bind_some, rs_B, Bool.false_eq_true, if_false, hA, bne_self_eq_false]
  rw [rwrite_eq n (by omega)]
  simp only [Option.bind_some, beq_self_eq_true, Bool.not_true, Bool.false_eq_true, if_false]
  rw [rformed_eq n (by omega), rcheck_eq n (by omega), hf]
  simp only [Option.bind_some, Bool.not_true, Bool.false_eq_true, if_false]
  by_cases h0 : checkN n = 0
  · simp [h0]
  · have g : (checkN n != 0) = true := by simpa using h0
    simp [h0]

end Go.Proofs.YtihndopckmdpbaaDoor
