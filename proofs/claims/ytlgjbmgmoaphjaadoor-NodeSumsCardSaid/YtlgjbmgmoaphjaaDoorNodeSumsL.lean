/- NodeSums, plainly. -/
import Derived.Test.YtlgjbmgmoaphjaaDoorDocRight
namespace Go.Proofs.YtlgjbmgmoaphjaaDoor
set_option linter.unusedSimpArgs false
set_option linter.unusedVariables false
open Go

theorem sums_l0 : ∀ (l : List api_Node) (i sz : Int) (d : Nat) (w : Str), 0 ≤ sz → sz + nwts l ≤ 1099511627776 → w.length + nwts l ≤ 1099511627776 → diptychlaw1_NodeSums_l0 l i sz (d : Int) w = some (sz + nsizes l, ((max d (depNs l) : Nat) : Int), w ++ wordsNs l)
  | [], i, sz, d, w, _, _, _ => by simp [diptychlaw1_NodeSums_l0, nsizes, depNs, wordsNs]
  | n :: l, i, sz, d, w, h0, h1, h2 => by
    simp only [nwts] at h1 h2
    have a1 := nsize_le n
    have a2 := wordsN_le n
    rw [diptychlaw1_NodeSums_l0, size_eq n (by omega), depth_eq n (by omega), words_eq n (by omega)]
    simp only [Option.bind_some]
    have e : (if (depN n : Int) > (d : Int) then (depN n : Int) else (d : Int)) = ((max d (depN n) : Nat) : Int) := by split <;> omega
    rw [chk_eq (by omega), w64_eq (by omega), e, sums_l0 l _ _ _ _ (by omega) (by omega) (by simp; omega)]
    simp only [nsizes, depNs, wordsNs, Option.some.injEq, Prod.mk.injEq, List.append_assoc, and_true]
    omega

theorem NodeSums_true (l : List diptychlaw1_Cell) (hl : l.length ≤ 9223372036854775807) (h : ∀ y ∈ l, cellIn y) : diptychlaw1_NodeSums l = some true := by
  obtain ⟨ks, e1, e2⟩ := doc_eq l hl h
  have hw := e2.wt
  have hkl := nwts_len ks
  have hns := nsizes_le' ks
  have hdd := depNs_le ks fun n _ => depN_le n
  have hdp := e2.dep
  unfold diptychlaw1_NodeSums
  rw [shown1_eq]
  simp only [Option.bind_some, Bool.not_true, Bool.false_eq_true, if_false]
  rw [e1]
  simp only [Option.bind_some]
  have h1 := sums_l0 ks 0 2 0 [] (by omega) (by omega) (by simp; omega)
  have h1' : diptychlaw1_NodeSums_l0 ks 0 2 0 [] = _ := h1
  rw [chk_eq (by omega), h1']
  simp only [Option.bind_some, List.nil_append, Nat.zero_max]
  have wn : nwt ⟨sDoc, [], [], [], ks⟩ ≤ 1099511627776 := by
    simp only [nwt, strsW, attrsW, List.length_nil]
    have : sDoc.length = 3 := rfl
    omega
  have f1 : nsize ⟨sDoc, [], [], [], ks⟩ = 2 + nsizes ks := by rw [nsize_eq]; rfl
  have f2 : depN ⟨sDoc, [], [], [], ks⟩ = depNs ks + 1 := by rw [depN_eq]; rfl
  have f3 : wordsN ⟨sDoc, [], [], [], ks⟩ = wordsNs ks := by rw [wordsN_eq]; rfl
  rw [size_eq _ wn, f1]
  simp only [Option.bind_some]
  have g1 : (((2 + nsizes ks : Nat) : Int) == 2 + (nsizes ks : Int)) = true := by simp
  rw [if_pos g1, depth_eq _ wn, f2, w64_eq (by omega)]
  simp only [Option.bind_some]
  have g2 : (((depNs ks + 1 : Nat) : Int) == (depNs ks : Int) + 1) = true := by simp
  rw [if_pos g2, words_eq _ wn, f3]
  simp only [Option.bind_some, beq_self_eq_true, if_true]
  rw [total_eq ks (by omega), w64_eq (by omega)]
  simp only [Option.bind_some]
  have g3 : ((nsizes ks : Int) == 2 + (nsizes ks : Int) - 2) = true := by simp; omega
  rw [if_pos g3, right_eq _ wn, doc_right e2]
  rfl

end Go.Proofs.YtlgjbmgmoaphjaaDoor
