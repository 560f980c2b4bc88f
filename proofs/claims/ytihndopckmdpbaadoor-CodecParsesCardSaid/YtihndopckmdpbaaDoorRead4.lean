/- What is written is read: nodes, and Parse. -/
import Derived.Test.YtihndopckmdpbaaDoorRead3
namespace Go.Proofs.YtihndopckmdpbaaDoor
set_option linter.unusedSimpArgs false
set_option linter.unusedVariables false
open Go

theorem node_read_k (n : api_Node) : formB n = true → nwt n ≤ 1073741824 → ∀ kr, ndep n ≤ kr → ∀ t : Str, (isT n = true → t.head? ≠ some 60) → (writeN n ++ t).length ≤ 1073741824 → codec_reader_node_x_k kr ⟨writeN n ++ t, false⟩ = some (n, ⟨t, false⟩) := by
  induction n using api_Node.ind with
  | h n ih =>
    intro hf hw kr hk t ht hb
    have hd' := ndep_eq n
    obtain ⟨kr, rfl⟩ : ∃ j, kr = j + 1 := ⟨kr - 1, by omega⟩
    have hwt := nwt_eq n
    have hkl := nwts_len n.Kids
    have hml := strsW_n n.Marks
    have hal := attrsW_n n.Attrs
    obtain ⟨c, hc, hor⟩ := write_head hf t
    rw [codec_reader_node_x_k]
    simp only
    rw [hasP_eq 34 _ (by omega), hc]
    cases hT : isT n with
    | true =>
      have hc34 : c = 34 := by
        rcases hor with ⟨_, h⟩ | ⟨h, _⟩
        · exact h
        · rw [hT] at h; cases h
      subst hc34
      simp only [decide_true, Option.bind_some, if_true]
      obtain ⟨e, hr⟩ := formed_text hf hT
      have ew : writeN n = qt n.Text ++ hd ⟨sText, n.Text, n.Marks, [], []⟩ := by
        rw [writeN_eq, if_pos hT, ← e]
      rw [ew] at hb ⊢
      rw [text_read n.Text n.Marks t (rise_letters hr) (ht hT) hb (by omega), ← e]
      rfl
    | false =>
      have hc34 : c ≠ 34 := by
        rintro rfl
        rcases hor with ⟨h, _⟩ | ⟨_, h⟩
        · rw [hT] at h; cases h
        · revert h; decide
      have g0 : decide (some c = some (34 : UInt8)) = false := by simp [hc34]
      simp only [g0, Option.bind_some, Bool.false_eq_true, if_false]
      obtain ⟨e, h1, h2, h3⟩ := formed_node hf hT
      have ew : writeN n ++ t = hd n ++ 91 :: (writeL n.Kids ++ 93 :: t) := by rw [writeN_eq, if_neg (by simp [hT])]; simp
      rw [ew] at hb hc ⊢
      clear ew
      obtain ⟨K, hK⟩ : ∃ K, K = writeL n.Kids ++ 93 :: t := ⟨_, rfl⟩
      have hb2 : (writeL n.Kids ++ 93 :: t).length ≤ 1073741824 := by rw [List.length_append, List.length_cons] at hb; omega
      have hkids : (lim fun k => codec_reader_node_x_l2 (codec_reader_node_x_k kr) k [] ⟨writeL n.Kids ++ 93 :: t, false⟩) = some ([] ++ n.Kids, ⟨93 :: t, false⟩) := lim_of (n.Kids.length + 1) fun k hk' =>
        kids_l2 (codec_reader_node_x_k kr) t n.Kids [] k h3 (fun m hm t' ht' hb' => ih m hm (h3 m hm) (by have := nwt_mem hm; omega) kr (by have := ndep_mem hm; omega) t' (fun _ => ht') hb') hb2 (by simp only [List.length_nil]; omega) (by omega)
      rw [← hK] at hb hc hb2 hkids ⊢
      have hname := isName_letters h1
      -- behind the head
      have rest : ∀ (A : List api_Attr), n.Attrs = A → ((codec_reader_want_x [91] ⟨91 :: K, false⟩).bind fun reader_34 =>
          (lim fun k => codec_reader_node_x_l2 (codec_reader_node_x_k kr) k [] reader_34).bind fun (v_44, r_45) =>
          (codec_reader_want_x [93] r_45).bind fun reader_46 =>
          some (({ Kind := n.Kind, Text := ([] : Str), Marks := [], Attrs := A, Kids := v_44 } : api_Node), reader_46)) = some (n, ⟨t, false⟩) := by
        intro A hA
        rw [want_eq 91 _ _ (by simp only [List.length_append, List.length_cons] at hb ⊢; omega)]
        simp only [List.head?_cons, if_true, List.tail_cons, Option.bind_some]
        rw [hkids]
        simp only [Option.bind_some, List.nil_append]
        rw [want_eq 93 _ _ (by rw [hK, List.length_append] at hb2; omega)]
        simp only [List.head?_cons, if_true, List.tail_cons, Option.bind_some]
        rw [← hA, ← e]
      cases hA : n.Attrs with
      | nil =>
        have eh : hd n = n.Kind := by unfold hd; simp [hT, hA]
        rw [eh] at hb ⊢
        rw [name_app n.Kind K 91 false hname nl91 (by omega)]
        simp only [Option.bind_some]
        rw [takes_eq 40 _ _ (by simp only [List.length_append, List.length_cons] at hb ⊢; omega)]
        have g : ¬ ((91 :: K).head? = some (40 : UInt8)) := by simp
        simp only [g, if_false, Option.bind_some, Bool.false_eq_true]
        exact rest [] hA
      | cons x l =>
        have eh : hd n ++ 91 :: K = n.Kind ++ 40 :: (Lib.join ((x :: l).map atx) [32] ++ 41 :: (91 :: K)) := by
          unfold hd
          simp [hT, hA]
        rw [eh] at hb hc ⊢
        clear eh
        have hb3 : (Lib.join ((x :: l).map atx) [32] ++ 41 :: (91 :: K)).length ≤ 1073741824 := by rw [List.length_append, List.length_cons] at hb; omega
        rw [name_app n.Kind _ 40 false hname nl40 (by omega)]
        simp only [Option.bind_some]
        rw [takes_eq 40 _ _ (by rw [List.length_append] at hb; omega)]
        simp only [List.head?_cons, if_true, List.tail_cons, Option.bind_some]
        have hlet : ∀ y ∈ x :: l, y.Name.all letter = true := by
          intro y hy
          rw [hA] at h2
          exact rise_letters h2 y.Name (List.mem_map.2 ⟨y, hy, rfl⟩)
        have hlen : (x :: l).length ≤ 1073741824 := by rw [← hA]; omega
        have hl1 : (lim fun k => codec_reader_node_x_l1 k true [] ⟨Lib.join ((x :: l).map atx) [32] ++ 41 :: (91 :: K), false⟩) = some ([] ++ x :: l, ⟨41 :: (91 :: K), false⟩) := lim_of (l.length + 2) fun k hk' =>
          attrs_l1 (91 :: K) l x [] k hlet hb3 (by simp only [List.length_cons, List.length_nil] at hlen ⊢; omega) (by omega)
        rw [hl1]
        simp only [Option.bind_some, List.nil_append]
        rw [want_eq 41 _ _ (by rw [List.length_append] at hb3; omega)]
        simp only [List.head?_cons, if_true, List.tail_cons, Option.bind_some]
        exact rest (x :: l) hA
theorem node_read (n : api_Node) (hf : formB n = true) (hw : nwt n ≤ 268435456) (t : Str) (ht : isT n = true → t.head? ≠ some 60) (hb : (writeN n ++ t).length ≤ 1073741824) : codec_reader_node_x ⟨writeN n ++ t, false⟩ = some (n, ⟨t, false⟩) := by
  unfold codec_reader_node_x
  exact lim_of (ndep n) fun kr hk => node_read_k n hf (by omega) kr hk t ht hb

abbrev zeroN : api_Node := ⟨[], [], [], [], []⟩
theorem parse_write (n : api_Node) (hf : formB n = true) (hw : nwt n ≤ 268435456) : codec_Parse (writeN n) = some (if checkN n = 0 then (n, 0) else (zeroN, checkN n)) := by
  have hle := writeN_le n
  have h1 := node_read n hf hw [] (by simp) (by simp; omega)
  rw [List.append_nil] at h1
  have hc2 : checkN n ≠ 2 := by
    unfold checkN
    rw [hf]
    simp only [Bool.true_eq_false, if_false]
    split
    · decide
    · split <;> decide
  unfold codec_Parse
  rw [h1]
  simp only [Option.bind_some]
  rw [write_eq n (by omega)]
  simp only [Option.bind_some]
  rw [check_eq n (by omega)]
  simp only [Option.bind_some, Bool.false_eq_true, if_false]
  unfold strings_Builder_String_x
  rw [chk_eq (by omega)]
  have g1 : (checkN n == (2 : Int)) = false := by simpa using hc2
  simp only [beq_self_eq_true, Bool.not_true, Bool.false_eq_true, if_false, Option.bind_some, g1]
  by_cases h0 : checkN n = 0
  · simp [h0]
  · simp [h0]
/-- Nodes that are written alike are the same. -/
theorem write_inj {a b : api_Node} (ha : formB a = true) (hb : formB b = true) (hwa : nwt a ≤ 268435456) (hwb : nwt b ≤ 268435456) (h : writeN a = writeN b) : a = b := by
  have hla := writeN_le a
  have hlb := writeN_le b
  have h1 := node_read a ha hwa [] (by simp) (by simp; omega)
  have h2 := node_read b hb hwb [] (by simp) (by simp; omega)
  rw [h, h2] at h1
  simp only [Option.some.injEq, Prod.mk.injEq] at h1
  exact h1.1.symm

end Go.Proofs.YtihndopckmdpbaaDoor
