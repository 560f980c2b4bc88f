/- What is written is read: texts, heads, nodes. -/
import Derived.Test.YtihndopckmdpbaaDoorRead
namespace Go.Proofs.YtihndopckmdpbaaDoor
set_option linter.unusedSimpArgs false
set_option linter.unusedVariables false
open Go

theorem nl60 : letter 60 = false := by decide
theorem nl62 : letter 62 = false := by decide
theorem nl44 : letter 44 = false := by decide
theorem nl61 : letter 61 = false := by decide
theorem nl40 : letter 40 = false := by decide
theorem nl91 : letter 91 = false := by decide
theorem name_app (w t : Str) (c : UInt8) (bad : Bool) (hw : w.all letter = true) (hc : letter c = false) (h : (w ++ c :: t).length ≤ 1099511627776) : codec_reader_name_x ⟨w ++ c :: t, bad⟩ = some (w, ⟨c :: t, bad⟩) := by
  rw [name_read _ _ h]
  obtain ⟨h1, h2⟩ := tw_name (w := w) (t := c :: t) hw (fun d hd => by cases hd; exact hc)
  rw [h1, h2]

theorem app16 (acc : List Str) (x : Str) (n : Nat) (h : (acc.length + n + 1) * 16 ≤ 140737488355328) : app 16 acc [x] = some (acc ++ [x]) := app_eq (Nat.le_trans (Nat.mul_le_mul_right 16 (by have : [x].length = 1 := rfl; omega)) h)
theorem app32 (acc : List api_Attr) (x : api_Attr) (n : Nat) (h : (acc.length + n + 1) * 32 ≤ 140737488355328) : app 32 acc [x] = some (acc ++ [x]) := app_eq (Nat.le_trans (Nat.mul_le_mul_right 32 (by have : [x].length = 1 := rfl; omega)) h)
theorem len_step {α β : Type} (acc : List α) (x : α) (y : β) (m : List β) : (acc ++ [x]).length + m.length + 1 = acc.length + (y :: m).length + 1 := by simp; omega

theorem marks_l0 (t : Str) (bad : Bool) (m : List Str) (x : Str) (acc : List Str) (k : Nat) (hl : ∀ y ∈ x :: m, y.all letter = true) (hb : (Lib.join (x :: m) [44] ++ 62 :: t).length ≤ 1073741824) (ha : (acc.length + m.length + 1) * 16 ≤ 140737488355328) (hk : m.length + 1 < k) :
    codec_reader_text_x_l0 k true acc ⟨Lib.join (x :: m) [44] ++ 62 :: t, bad⟩ = some (acc ++ x :: m, ⟨62 :: t, bad⟩) := by
  induction m generalizing x acc k with
  | nil =>
    obtain ⟨k, rfl⟩ : ∃ j, k = j + 2 := ⟨k - 2, by simp at hk; omega⟩
    have ej : Lib.join [x] [44] = x := by simp [Lib.join, Lib.joinTail]
    rw [ej] at hb ⊢
    rw [codec_reader_text_x_l0]
    simp only [if_true]
    rw [name_app x t 62 bad (hl x (by simp)) nl62 (by omega)]
    simp only [Option.bind_some]
    rw [app_eq (by simp; omega)]
    simp only [Option.bind_some]
    rw [takes_eq 44 _ _ (by simp only [List.length_append, List.length_cons, List.length_nil] at hb ⊢; omega)]
    have g : ¬ ((62 :: t).head? = some (44 : UInt8)) := by simp
    simp only [g, if_false, Option.bind_some]
    rw [codec_reader_text_x_l0]
    simp
  | cons y m ih =>
    obtain ⟨k, rfl⟩ : ∃ j, k = j + 1 := ⟨k - 1, by simp at hk; omega⟩
    have ej : Lib.join (x :: y :: m) [44] ++ 62 :: t = x ++ 44 :: (Lib.join (y :: m) [44] ++ 62 :: t) := by simp [Lib.join, Lib.joinTail]
    rw [ej] at hb ⊢
    clear ej
    obtain ⟨J, hJ⟩ : ∃ J, J = Lib.join (y :: m) [44] := ⟨_, rfl⟩
    rw [← hJ] at hb ⊢
    have hb2 : (J ++ 62 :: t).length ≤ 1073741824 := by simp only [List.length_append, List.length_cons, List.length_nil] at hb ⊢; omega
    rw [codec_reader_text_x_l0]
    simp only [if_true]
    rw [name_app x _ 44 bad (hl x (by simp)) nl44 (by omega)]
    simp only [Option.bind_some]
    have hap : app 16 acc [x] = some (acc ++ [x]) := app16 acc x _ ha
    rw [hap]
    simp only [Option.bind_some]
    rw [takes_eq 44 _ _ (by simp only [List.length_append, List.length_cons, List.length_nil] at hb ⊢; omega)]
    simp only [List.head?_cons, if_true, List.tail_cons, Option.bind_some]
    have ha2 : ((acc ++ [x]).length + m.length + 1) * 16 ≤ 140737488355328 := by rw [len_step acc x y]; exact ha
    have hk2 : m.length + 1 < k := by simp only [List.length_cons] at hk; omega
    rw [hJ] at hb2 ⊢
    rw [ih y (acc ++ [x]) k (fun z hz => hl z (List.mem_cons_of_mem _ hz)) hb2 ha2 hk2]
    simp

theorem text_read (v : Str) (m : List Str) (t : Str) (hm : ∀ y ∈ m, y.all letter = true) (ht : t.head? ≠ some 60) (hb : (qt v ++ hd ⟨sText, v, m, [], []⟩ ++ t).length ≤ 1073741824) (hml : m.length ≤ 1073741824) :
    codec_reader_text_x ⟨qt v ++ hd ⟨sText, v, m, [], []⟩ ++ t, false⟩ = some (⟨sText, v, m, [], []⟩, ⟨t, false⟩) := by
  unfold codec_reader_text_x
  have e0 : qt v ++ hd ⟨sText, v, m, [], []⟩ ++ t = qt v ++ (hd ⟨sText, v, m, [], []⟩ ++ t) := by simp
  rw [e0] at hb ⊢
  rw [quoted_qt v _ (by omega)]
  simp only [Option.bind_some]
  have hh : hd ⟨sText, v, m, [], []⟩ = if m = [] then [] else 60 :: (Lib.join m [44] ++ [62]) := by
    unfold hd
    have : isT (⟨sText, v, m, [], []⟩ : api_Node) = true := rfl
    cases m <;> simp [this]
  cases m with
  | nil =>
    simp only [if_true] at hh
    rw [hh] at hb ⊢
    simp only [List.nil_append] at hb ⊢
    rw [takes_eq 60 _ _ (by simp only [List.length_append, List.length_cons, List.length_nil] at hb; omega)]
    simp only [ht, if_false, Option.bind_some, Bool.not_false, if_true]
  | cons x m =>
    simp only [reduceCtorEq, if_false] at hh
    rw [hh] at hb ⊢
    have e1 : 60 :: (Lib.join (x :: m) [44] ++ [62]) ++ t = 60 :: (Lib.join (x :: m) [44] ++ 62 :: t) := by simp
    rw [e1] at hb ⊢
    rw [takes_eq 60 _ _ (by simp only [List.length_append, List.length_cons, List.length_nil] at hb ⊢; omega)]
    simp only [List.head?_cons, if_true, List.tail_cons, Option.bind_some, Bool.not_true, Bool.false_eq_true, if_false]
    have h0 : (lim fun k => codec_reader_text_x_l0 k true [] ⟨Lib.join (x :: m) [44] ++ 62 :: t, false⟩) = some ([] ++ x :: m, ⟨62 :: t, false⟩) := lim_of (m.length + 2) fun k hk => marks_l0 t false m x [] k hm (by simp only [List.length_append, List.length_cons, List.length_nil] at hb ⊢; omega) (by simp at hml ⊢; omega) (by omega)
    rw [h0]
    simp only [Option.bind_some, List.nil_append]
    rw [want_eq 62 _ _ (by simp only [List.length_append, List.length_cons, List.length_nil] at hb ⊢; omega)]
    simp

theorem attrs_l1 (t : Str) (l : List api_Attr) (x : api_Attr) (acc : List api_Attr) (k : Nat) (hl : ∀ y ∈ x :: l, y.Name.all letter = true) (hb : (Lib.join ((x :: l).map atx) [32] ++ 41 :: t).length ≤ 1073741824) (ha : (acc.length + l.length + 1) * 32 ≤ 140737488355328) (hk : l.length + 1 < k) :
    codec_reader_node_x_l1 k true acc ⟨Lib.join ((x :: l).map atx) [32] ++ 41 :: t, false⟩ = some (acc ++ x :: l, ⟨41 :: t, false⟩) := by
  induction l generalizing x acc k with
  | nil =>
    obtain ⟨k, rfl⟩ : ∃ j, k = j + 2 := ⟨k - 2, by simp at hk; omega⟩
    have ej : Lib.join (([x] : List api_Attr).map atx) [32] ++ 41 :: t = x.Name ++ 61 :: (qt x.Value ++ 41 :: t) := by simp [Lib.join, Lib.joinTail, atx]
    rw [ej] at hb ⊢
    rw [codec_reader_node_x_l1]
    simp only [if_true, Bool.not_false]
    rw [name_app _ _ 61 false (hl x (by simp)) nl61 (by omega)]
    simp only [Option.bind_some]
    rw [want_eq 61 _ _ (by simp only [List.length_append, List.length_cons, List.length_nil] at hb ⊢; omega)]
    simp only [List.head?_cons, if_true, List.tail_cons, Option.bind_some]
    rw [quoted_qt _ _ (by simp only [List.length_append, List.length_cons, List.length_nil] at hb ⊢; omega)]
    simp only [Option.bind_some]
    rw [app_eq (by simp; omega)]
    simp only [Option.bind_some]
    rw [takes_eq 32 _ _ (by simp only [List.length_append, List.length_cons, List.length_nil] at hb ⊢; omega)]
    have g : ¬ ((41 :: t).head? = some (32 : UInt8)) := by simp
    simp only [g, if_false, Option.bind_some]
    rw [codec_reader_node_x_l1]
    simp
  | cons y l ih =>
    obtain ⟨k, rfl⟩ : ∃ j, k = j + 1 := ⟨k - 1, by simp at hk; omega⟩
    have ej : Lib.join ((x :: y :: l).map atx) [32] ++ 41 :: t = x.Name ++ 61 :: (qt x.Value ++ 32 :: (Lib.join ((y :: l).map atx) [32] ++ 41 :: t)) := by simp [Lib.join, Lib.joinTail, atx]
    rw [ej] at hb ⊢
    clear ej
    obtain ⟨J, hJ⟩ : ∃ J, J = Lib.join ((y :: l).map atx) [32] := ⟨_, rfl⟩
    rw [← hJ] at hb ⊢
    have hb2 : (J ++ 41 :: t).length ≤ 1073741824 := by simp only [List.length_append, List.length_cons, List.length_nil] at hb ⊢; omega
    rw [codec_reader_node_x_l1]
    simp only [if_true, Bool.not_false]
    rw [name_app _ _ 61 false (hl x (by simp)) nl61 (by omega)]
    simp only [Option.bind_some]
    rw [want_eq 61 _ _ (by simp only [List.length_append, List.length_cons, List.length_nil] at hb ⊢; omega)]
    simp only [List.head?_cons, if_true, List.tail_cons, Option.bind_some]
    rw [quoted_qt _ _ (by simp only [List.length_append, List.length_cons, List.length_nil] at hb ⊢; omega)]
    simp only [Option.bind_some]
    have hap : app 32 acc [(⟨x.Name, x.Value⟩ : api_Attr)] = some (acc ++ [x]) := app32 acc x _ ha
    rw [hap]
    simp only [Option.bind_some]
    rw [takes_eq 32 _ _ (by simp only [List.length_append, List.length_cons, List.length_nil] at hb ⊢; omega)]
    simp only [List.head?_cons, if_true, List.tail_cons, Option.bind_some]
    have ha2 : ((acc ++ [x]).length + l.length + 1) * 32 ≤ 140737488355328 := by rw [len_step acc x y]; exact ha
    have hk2 : l.length + 1 < k := by simp only [List.length_cons] at hk; omega
    rw [hJ] at hb2 ⊢
    rw [ih y (acc ++ [x]) k (fun z hz => hl z (List.mem_cons_of_mem _ hz)) hb2 ha2 hk2]
    simp

end Go.Proofs.YtihndopckmdpbaaDoor
