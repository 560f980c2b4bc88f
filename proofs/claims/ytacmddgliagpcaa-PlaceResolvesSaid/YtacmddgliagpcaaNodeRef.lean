/- The reference's size. -/
import Derived.Test.YtacmddgliagpcaaPlaceSpec
namespace Go.Proofs.Ytacmddgliagpcaa
set_option linter.unusedSimpArgs false
set_option linter.unusedVariables false
open Go

theorem runesFrom_count (b : ByteArray) : ∀ (n i : Nat) (acc : Array Value), (Conv.runesFrom b n i acc).toList.length = acc.toList.length + Lib.runeCountFrom b n i
  | 0, i, acc => by simp [Conv.runesFrom, Lib.runeCountFrom]
  | n + 1, i, acc => by
    unfold Conv.runesFrom Lib.runeCountFrom
    split
    · rename_i h
      rw [runesFrom_count b n _ _]
      simp; omega
    · rfl
theorem runes_len (s : Str) : (runes s).length = rlen s := by
  unfold runes rlen Lib.runeCountL Lib.runeCount
  rw [List.length_map, runesFrom_count]
  simp [ByteArray.size]

theorem rtotal_l0 (sz : api_Node → Option Int) : ∀ (l : List api_Node) (i acc : Int), (∀ k ∈ l, sz k = some (nsize k : Int)) → 0 ≤ acc → acc + nsizes l ≤ 9223372036854775807 → diptychref1_Total_l0 sz l i acc = some (acc + nsizes l)
  | [], i, acc, _, _, _ => by simp [diptychref1_Total_l0, nsizes]
  | n :: l, i, acc, h, h0, hb => by
    simp only [nsizes] at hb
    rw [diptychref1_Total_l0, h n (by simp)]
    simp only [Option.bind_some]
    rw [w64_eq (by omega), rtotal_l0 sz l _ _ (fun k hk => h k (by simp [hk])) (by omega) (by omega)]
    simp only [nsizes, Option.some.injEq]
    omega
theorem rsize_k (n : api_Node) : nwt n ≤ 1099511627776 → ∀ kr, 2 * ndep n ≤ kr → diptychref1_Size_k kr n = some (nsize n : Int) := by
  induction n using api_Node.ind with
  | h n ih =>
    intro hw kr hk
    have hd := ndep_eq n
    obtain ⟨kr, rfl⟩ : ∃ j, kr = j + 1 + 1 := ⟨kr - 2, by omega⟩
    have hwt := nwt_eq n
    have hl := nwts_len n.Kids
    have hs := nsizes_le' n.Kids
    rw [diptychref1_Size_k, nsize_eq]
    by_cases ht : isT n = true
    · simp only [isT_def, ht, if_true, diptychref1_runes, Option.bind_some, runes_len]
    · simp only [isT_def, ht, Bool.false_eq_true, if_false]
      rw [diptychref1_Total_k, chk_eq (by omega), rtotal_l0 (diptychref1_Size_k kr) n.Kids 0 0 (fun k hkk => ih k hkk (by have := nwt_mem hkk; omega) kr (by have := ndep_mem hkk; omega)) (by omega) (by omega)]
      simp only [Option.bind_some]
      rw [w64_eq (by omega)]
      simp only [Option.some.injEq]
      omega
theorem rtotal_eq (l : List api_Node) (h : nwts l ≤ 1099511627776) : diptychref1_Total l = some (nsizes l : Int) := by
  unfold diptychref1_Total
  refine lim_of (2 * ndeps l + 1) fun kr hk => ?_
  obtain ⟨kr, rfl⟩ : ∃ j, kr = j + 1 := ⟨kr - 1, by omega⟩
  have hl := nwts_len l
  have hs := nsizes_le' l
  rw [diptychref1_Total_k, chk_eq (by omega), rtotal_l0 (diptychref1_Size_k kr) l 0 0 (fun k hkk => rsize_k k (by have := nwt_mem hkk; omega) kr (by have := ndep_mem hkk; omega)) (by omega) (by omega)]
  simp

theorem rsize_eq (n : api_Node) (h : nwt n ≤ 1099511627776) : diptychref1_Size n = some (nsize n : Int) := by
  unfold diptychref1_Size
  exact lim_of (2 * ndep n) fun kr hk => rsize_k n h kr hk

end Go.Proofs.Ytacmddgliagpcaa
