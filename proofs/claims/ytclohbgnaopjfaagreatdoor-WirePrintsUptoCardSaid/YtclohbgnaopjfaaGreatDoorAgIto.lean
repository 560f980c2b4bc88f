/- strconv.Itoa by the kit's contract. -/
import Derived.Test.YtclohbgnaopjfaaGreatDoorAgLib
import Derived.Test.YtclohbgnaopjfaaGreatDoorProg
import Derived.Lib.LaidTab
import Derived.Lib.ItoaNum
import Derived.Shelf.Strconv.Itoa3
namespace Go.Proofs.YtclohbgnaopjfaaGreatDoor
set_option linter.unusedSimpArgs false
set_option linter.unusedVariables false
open Go Go.RowKit Go.Shelf Go.Sort

theorem below_grow (n0 : Nat) (w : World) (h : n0 ≤ w.heap.size) (k : Nat) (os : Array Obj) : Below n0 w (grow (w.drewN k) os) :=
  { size := by simp [grow, World.drewN], block := fun b hb => by
      show (w.heap ++ os)[b]? = _
      rw [Array.getElem?_append_left (by omega)], output := rfl, os := rfl, tape := rfl }
theorem tab_of {w : World} (h : GW w) : Lib.TabIs Tryz.prog w "internal/strconv.uint64pow10" .u64 Lib.pow10Tab := by
  obtain ⟨_, t, fr, h⟩ := h
  have hg : Tryz.prog.globalNamed "internal/strconv.uint64pow10" = some 3 := by kernel_rfl
  unfold Lib.TabIs World.var?
  rw [hg]
  simp only [Option.bind_some, h]
  rfl
theorem lib_itoa {P : Program} {f : Nat} (hc : Callable P f)
    (c1 : ∀ (n : Int) (w : World) (_ : -9223372036854775808 ≤ n) (_ : n ≤ 9223372036854775807) (_ : GW w),
      Calls P f #[.int .i64 n] w fun e w' => e = .returned (.string ⟨(Lib.itoa n).toArray⟩) ∧ ∃ k os, w' = grow (w.drewN k) os)
    (n : Int) (R : Str) (hh : chk (-9223372036854775808 ≤ n ∧ n ≤ 9223372036854775807) (some (Lib.itoa n)) = some R) : PC P f [.int .i64 n] (.str R) := by
  obtain ⟨⟨h1, h2⟩, hR⟩ := chk_some hh
  cases hR
  refine pc_of_calls hc (fun _ _ _ _ h => h) fun H w vs hA hG hr => ?_
  obtain ⟨v, rfl, g1⟩ := repL_one hr
  have e : v = .int .i64 n := by cases g1; rfl
  subst e
  refine ⟨.string (ba (Lib.itoa n)), .str _ _, ?_⟩
  refine (c1 n w h1 h2 hG).mono ?_
  rintro e w' ⟨rfl, k, os, rfl⟩
  exact ⟨rfl, below_grow _ _ (Nat.le_refl _) _ _⟩

end Go.Proofs.YtclohbgnaopjfaaGreatDoor
