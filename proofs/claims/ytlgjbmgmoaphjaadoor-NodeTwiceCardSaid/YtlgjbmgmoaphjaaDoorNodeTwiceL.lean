/- NodeTwice, plainly. -/
import Derived.Test.YtlgjbmgmoaphjaaDoorDocRight
namespace Go.Proofs.YtlgjbmgmoaphjaaDoor
set_option linter.unusedSimpArgs false
set_option linter.unusedVariables false
open Go

theorem mn_plain {n : api_Node} (hn : MN n) : Plain n := by
  cases hn with
  | text t m ht hm => exact fun _ => ⟨rfl, rfl⟩
  | node k a ks hk ha hs hj =>
    intro h
    have hkk : isT (⟨k, [], [], a, ks⟩ : api_Node) = false := mn_kind hk
    rw [hkk] at h
    cases h

theorem NodeTwice_true (l : List diptychlaw1_Cell) (by_ : Int) (hl : l.length ≤ 9223372036854775807) (h : ∀ y ∈ l, cellIn y) (ha : -9223372036854775808 ≤ by_ ∧ by_ ≤ 9223372036854775807) : diptychlaw1_NodeTwice l by_ = some true := by
  obtain ⟨k, e1, e2⟩ := made_eq l hl h
  have hw := e2.wt
  have hkl := nwts_len k
  unfold diptychlaw1_NodeTwice
  rw [shown1_eq]
  simp only [Option.bind_some, Bool.not_true, Bool.false_eq_true, if_false]
  rw [e1]
  simp only [Option.bind_some]
  obtain ⟨t, ht, htl⟩ : ∃ t : Nat, (if (if (k.length : Int) < by_ then (k.length : Int) else by_) > (0 : Int) then (if (k.length : Int) < by_ then (k.length : Int) else by_) else (0 : Int)) = (t : Int) ∧ t ≤ k.length := by
    refine ⟨(if (if (k.length : Int) < by_ then (k.length : Int) else by_) > (0 : Int) then (if (k.length : Int) < by_ then (k.length : Int) else by_) else (0 : Int)).toNat, ?_, ?_⟩ <;> (split <;> split <;> omega)
  rw [ht]
  have s1 : sl k (t : Int) (k.length : Int) = some (k.drop t) := by
    have := sl_nat (l := k) (a := t) (b := k.length) htl (Nat.le_refl _)
    simpa using this
  have s2 : sl k 0 (t : Int) = some (k.take t) := by
    have := sl_nat (l := k) (a := 0) (b := t) (by omega) htl
    simpa using this
  have hws : nwts (k.take t) + nwts (k.drop t) = nwts k := by
    conv => rhs; rw [← List.take_append_drop t k]
    rw [nwts_app]
  rw [s1]
  simp only [Option.bind_some]
  rw [app_eq (by simp; omega)]
  simp only [Option.bind_some, List.nil_append]
  rw [s2]
  simp only [Option.bind_some]
  rw [app_eq (by simp; omega)]
  simp only [Option.bind_some]
  have hT : ∀ x ∈ k.drop t ++ k.take t, MN x := by
    intro x hx
    rcases List.mem_append.1 hx with hx | hx
    · exact e2.mn x (List.mem_of_mem_drop hx)
    · exact e2.mn x (List.mem_of_mem_take hx)
  have hTw : nwts (k.drop t ++ k.take t) ≤ 456 := by rw [nwts_app]; omega
  have hTd : ndeps (k.drop t ++ k.take t) ≤ 19 := by
    have h1 : ndeps k = max (ndeps (k.take t)) (ndeps (k.drop t)) := by rw [← ndeps_app, List.take_append_drop]
    have h2 := e2.dep
    rw [ndeps_app]
    omega
  generalize hTe : k.drop t ++ k.take t = T at *
  obtain ⟨ok1, ok2⟩ := joinR_ok T hT
  have jw := joinR_wt T
  have jd := joinR_dep T
  have hK : Kids (joinR T) := ⟨ok1, ok2, by omega, by omega⟩
  have hns := nsizes_le' T
  rw [njoin_eq T (by omega)]
  simp only [Option.bind_some]
  rw [njoin_eq _ (by omega), joinR_two T fun x hx => mn_plain (hT x hx)]
  simp only [Option.bind_some]
  rw [rsameAll_eq _ (by omega)]
  simp only [Option.bind_some, if_true]
  rw [total_eq _ (by omega), total_eq _ (by omega), joinR_size T hT]
  simp only [Option.bind_some, beq_self_eq_true, if_true]
  have wn : ∀ ks, nwts ks ≤ 456 → nwt ⟨sDoc, [], [], [], ks⟩ ≤ 1099511627776 := by
    intro ks hks
    simp only [nwt, strsW, attrsW, List.length_nil]
    have : sDoc.length = 3 := rfl
    omega
  have f3 : ∀ ks, wordsN ⟨sDoc, [], [], [], ks⟩ = wordsNs ks := fun ks => by rw [wordsN_eq]; rfl
  have w1 : node_Words ({ Kind := ([100, 111, 99] : Str), Text := ([] : Str), Marks := [], Attrs := [], Kids := joinR T } : api_Node) = some (wordsNs T) := by
    have := words_eq ⟨sDoc, [], [], [], joinR T⟩ (wn _ (by omega))
    rw [f3, joinR_words] at this
    exact this
  have w2 : node_Words ({ Kind := ([100, 111, 99] : Str), Text := ([] : Str), Marks := [], Attrs := [], Kids := T } : api_Node) = some (wordsNs T) := by
    have := words_eq ⟨sDoc, [], [], [], T⟩ (wn _ (by omega))
    rw [f3] at this
    exact this
  rw [w1, w2]
  simp only [Option.bind_some, beq_self_eq_true, if_true]
  have c1 : node_Check ({ Kind := ([100, 111, 99] : Str), Text := ([] : Str), Marks := [], Attrs := [], Kids := joinR T } : api_Node) = some 0 := by
    have := check_eq ⟨sDoc, [], [], [], joinR T⟩ (wn _ (by omega))
    rw [doc_right hK] at this
    exact this
  have f1 : nsize ⟨sDoc, [], [], [], joinR T⟩ = 2 + nsizes T := by rw [nsize_eq, ← joinR_size T hT]; rfl
  have z1 : node_Size ({ Kind := ([100, 111, 99] : Str), Text := ([] : Str), Marks := [], Attrs := [], Kids := joinR T } : api_Node) = some ((2 + nsizes T : Nat) : Int) := by
    have := size_eq ⟨sDoc, [], [], [], joinR T⟩ (wn _ (by omega))
    rw [f1] at this
    exact this
  rw [c1]
  simp only [Option.bind_some, beq_self_eq_true, if_true]
  rw [z1]
  simp only [Option.bind_some]
  rw [w64_eq (by omega)]
  simp

end Go.Proofs.YtlgjbmgmoaphjaaDoor
