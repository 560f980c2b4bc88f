/- Texts of the proof of stepMarksCard -/
import Derived.Test.YtclohbgnaopjfaaDoorAgC
import Derived.Test.YtclohbgnaopjfaaDoorAgF
import Derived.Test.YtclohbgnaopjfaaDoorAgK0
import Derived.Test.YtclohbgnaopjfaaDoorAgK1
import Derived.Test.YtclohbgnaopjfaaDoorAgK2
namespace Go.Proofs.YtclohbgnaopjfaaDoor
set_option linter.unusedSimpArgs false
set_option linter.unusedVariables false
open Go
set_option maxRecDepth 100000
theorem agU (s_1 : zD) (R : Bool) (hh : Zj s_1 = some R) : PC Tryd.prog 48 [.agg [.int .u8 s_1.Kind, .int .i64 s_1.From, .int .i64 s_1.To, .list 5 (s_1.wM.map za.pv), .str s_1.Name, .str s_1.Value]] (.bool R) := by
  rw [Zj] at hh
  refine ado rfl ?_
  refine zb fun K kk hK => ?_
  simp only [go_sem]
  refine hK _ _ fun nx => ?_; clear hK K; try clear kk
  refine zk ?_
  obtain ⟨e0, f0, hh⟩ := ze hh
  refine VW (fun s => ∃ Vy, Vy = e0 ∧ ∃ (nx : Nat) (g1 : Nat), s = ⟨[(1, .box 1 g1 0), (3, .bool Vy)], [(1, g1, .var 39 [.int .u8 s_1.Kind, .int .i64 s_1.From, .int .i64 s_1.To, .list 5 (s_1.wM.map za.pv), .str s_1.Name, .str s_1.Value])], nx⟩)
    (fun i s => False)
    (fun s => False) ?_ ?_ ?_ ?_
  · have hh := f0
    by_cases h1 : (decide (s_1.From ≥ (0 : Int))) = true
    · rw [if_pos h1] at hh
      by_cases h2 : (decide (s_1.From ≤ s_1.To)) = true
      · rw [if_pos h2] at hh
        refine zq fun K kk hK => ?_
        simp only [go_sem, h1, of_decide_eq_true h1, h2, of_decide_eq_true h2]
        (repeat refine sd ?_)
        refine hK _ _ fun nx => ?_; clear hK K; try clear kk
        refine nmx ?_
        refine kF ?_
        refine zH ?_
        refine ⟨_, (Option.some.inj hh), ?_⟩
        first | exact ⟨_, _, rfl⟩ | (simp only [pvE, lsE, zn]; exact ⟨_, _, rfl⟩) | (simp only [pvE, lsE, zn, h1, h2]; exact ⟨_, _, rfl⟩)
      · rw [if_neg h2] at hh
        replace h2 := Bool.eq_false_iff.mpr h2
        refine zq fun K kk hK => ?_
        simp only [go_sem, h1, of_decide_eq_true h1, h2, of_decide_eq_false h2]
        (repeat refine sd ?_)
        refine hK _ _ fun nx => ?_; clear hK K; try clear kk
        refine nmx ?_
        refine kF ?_
        refine zH ?_
        refine ⟨_, (Option.some.inj hh), ?_⟩
        first | exact ⟨_, _, rfl⟩ | (simp only [pvE, lsE, zn]; exact ⟨_, _, rfl⟩) | (simp only [pvE, lsE, zn, h1, h2]; exact ⟨_, _, rfl⟩)
    · rw [if_neg h1] at hh
      replace h1 := Bool.eq_false_iff.mpr h1
      refine zq fun K kk hK => ?_
      simp only [go_sem, h1, of_decide_eq_false h1]
      (repeat refine sd ?_)
      refine hK _ _ fun nx => ?_; clear hK K; try clear kk
      refine nmx ?_
      refine kF ?_
      refine zH ?_
      refine ⟨_, (Option.some.inj hh), ?_⟩
      first | exact ⟨_, _, rfl⟩ | (simp only [pvE, lsE, zn]; exact ⟨_, _, rfl⟩) | (simp only [pvE, lsE, zn, h1]; exact ⟨_, _, rfl⟩)
  · rintro s ⟨Vy, rfl, nx, g1, rfl⟩
    try dsimp only at hh
    refine zk ?_
    refine zb fun K kk hK => ?_
    simp only [go_sem]
    refine hK _ _ fun nx => ?_; clear hK K; try clear kk
    refine zC ?_
    refine zb fun K kk hK => ?_
    simp only [go_sem]
    refine hK _ _ fun nx => ?_; clear hK K; try clear kk
    by_cases h3 : (s_1.Kind == (114 : Int)) = true
    · rw [if_pos h3] at hh
      refine zm (by first | exact congrArg PV.bool h3 | rfl) ?_
      obtain ⟨aih, h4, hh⟩ := ze hh
      refine zb fun K kk hK => ?_
      simp only [go_sem]
      refine zf (QU _ _ h4) (by (try simp only [go_sem]) <;> exact wkl) (by rfl) (by rfl) ?_
      simp only [go_sem]
      refine hK _ _ fun nx => ?_; clear hK K; try clear kk
      by_cases h5 : (Vy) = true
      · rw [if_pos h5] at hh
        by_cases h6 : (aih != (2 : Int)) = true
        · rw [if_pos h6] at hh
          obtain ⟨h7, hh⟩ := zY hh
          refine zb fun K kk hK => ?_
          simp only [go_sem, h5, h6, h7]
          (repeat refine sd ?_)
          refine hK _ _ fun nx => ?_; clear hK K; try clear kk
          refine zi ?_; refine nmx ?_
          obtain hR := Option.some.inj hh
          subst hR
          exact zy
        · rw [if_neg h6] at hh
          replace h6 := Bool.eq_false_iff.mpr h6
          refine zb fun K kk hK => ?_
          simp only [go_sem, h5, h6]
          (repeat refine sd ?_)
          refine hK _ _ fun nx => ?_; clear hK K; try clear kk
          refine zi ?_; refine nmx ?_
          obtain hR := Option.some.inj hh
          subst hR
          exact zy
      · rw [if_neg h5] at hh
        replace h5 := Bool.eq_false_iff.mpr h5
        refine zb fun K kk hK => ?_
        simp only [go_sem, h5]
        (repeat refine sd ?_)
        refine hK _ _ fun nx => ?_; clear hK K; try clear kk
        refine zi ?_; refine nmx ?_
        obtain hR := Option.some.inj hh
        subst hR
        exact zy
    · rw [if_neg h3] at hh
      replace h3 := Bool.eq_false_iff.mpr h3
      refine zh (by first | exact congrArg PV.bool h3 | rfl) ?_
      refine zb fun K kk hK => ?_
      simp only [go_sem]
      refine hK _ _ fun nx => ?_; clear hK K; try clear kk
      by_cases h8 : (s_1.Kind == (97 : Int)) = true
      · rw [if_pos h8] at hh
        refine zm (by first | exact congrArg PV.bool h8 | rfl) ?_
        by_cases h9 : (decide (s_1.From ≥ (-1 : Int))) = true
        · rw [if_pos h9] at hh
          by_cases h10 : (decide (s_1.From ≤ (1048576 : Int))) = true
          · rw [if_pos h10] at hh
            by_cases h11 : (s_1.To == (0 : Int)) = true
            · rw [if_pos h11] at hh
              obtain ⟨alW, h12, hh⟩ := ze hh
              by_cases h13 : (alW) = true
              · rw [if_pos h13] at hh
                obtain ⟨aip, h14, hh⟩ := ze hh
                by_cases h15 : (aip) = true
                · rw [if_pos h15] at hh
                  refine zb fun K kk hK => ?_
                  simp only [go_sem, h9, of_decide_eq_true h9, h10, of_decide_eq_true h10, h11, h13, h15]
                  (repeat refine sd ?_)
                  refine zf (qL _ _ h12) (by (try simp only [go_sem, h9, of_decide_eq_true h9, h10, of_decide_eq_true h10, h11, h13, h15]) <;> exact wkl) (by rfl) (by rfl) ?_
                  simp only [go_sem, h9, of_decide_eq_true h9, h10, of_decide_eq_true h10, h11, h13, h15]
                  (repeat refine sd ?_)
                  refine zf (Vr _ _ h14) (by (try simp only [go_sem, h9, of_decide_eq_true h9, h10, of_decide_eq_true h10, h11, h13, h15]) <;> exact wkl) (by rfl) (by rfl) ?_
                  simp only [go_sem, h9, of_decide_eq_true h9, h10, of_decide_eq_true h10, h11, h13, h15]
                  (repeat refine sd ?_)
                  refine hK _ _ fun nx => ?_; clear hK K; try clear kk
                  refine zi ?_; refine nmx ?_
                  obtain hR := Option.some.inj hh
                  subst hR
                  exact zy
                · rw [if_neg h15] at hh
                  replace h15 := Bool.eq_false_iff.mpr h15
                  refine zb fun K kk hK => ?_
                  simp only [go_sem, h9, of_decide_eq_true h9, h10, of_decide_eq_true h10, h11, h13, h15]
                  (repeat refine sd ?_)
                  refine zf (qL _ _ h12) (by (try simp only [go_sem, h9, of_decide_eq_true h9, h10, of_decide_eq_true h10, h11, h13, h15]) <;> exact wkl) (by rfl) (by rfl) ?_
                  simp only [go_sem, h9, of_decide_eq_true h9, h10, of_decide_eq_true h10, h11, h13, h15]
                  (repeat refine sd ?_)
                  refine zf (Vr _ _ h14) (by (try simp only [go_sem, h9, of_decide_eq_true h9, h10, of_decide_eq_true h10, h11, h13, h15]) <;> exact wkl) (by rfl) (by rfl) ?_
                  simp only [go_sem, h9, of_decide_eq_true h9, h10, of_decide_eq_true h10, h11, h13, h15]
                  (repeat refine sd ?_)
                  refine hK _ _ fun nx => ?_; clear hK K; try clear kk
                  refine zi ?_; refine nmx ?_
                  obtain hR := Option.some.inj hh
                  subst hR
                  exact zy
              · rw [if_neg h13] at hh
                replace h13 := Bool.eq_false_iff.mpr h13
                refine zb fun K kk hK => ?_
                simp only [go_sem, h9, of_decide_eq_true h9, h10, of_decide_eq_true h10, h11, h13]
                (repeat refine sd ?_)
                refine zf (qL _ _ h12) (by (try simp only [go_sem, h9, of_decide_eq_true h9, h10, of_decide_eq_true h10, h11, h13]) <;> exact wkl) (by rfl) (by rfl) ?_
                simp only [go_sem, h9, of_decide_eq_true h9, h10, of_decide_eq_true h10, h11, h13]
                (repeat refine sd ?_)
                refine hK _ _ fun nx => ?_; clear hK K; try clear kk
                refine zi ?_; refine nmx ?_
                obtain hR := Option.some.inj hh
                subst hR
                exact zy
            · rw [if_neg h11] at hh
              replace h11 := Bool.eq_false_iff.mpr h11
              refine zb fun K kk hK => ?_
              simp only [go_sem, h9, of_decide_eq_true h9, h10, of_decide_eq_true h10, h11]
              (repeat refine sd ?_)
              refine hK _ _ fun nx => ?_; clear hK K; try clear kk
              refine zi ?_; refine nmx ?_
              obtain hR := Option.some.inj hh
              subst hR
              exact zy
          · rw [if_neg h10] at hh
            replace h10 := Bool.eq_false_iff.mpr h10
            refine zb fun K kk hK => ?_
            simp only [go_sem, h9, of_decide_eq_true h9, h10, of_decide_eq_false h10]
            (repeat refine sd ?_)
            refine hK _ _ fun nx => ?_; clear hK K; try clear kk
            refine zi ?_; refine nmx ?_
            obtain hR := Option.some.inj hh
            subst hR
            exact zy
        · rw [if_neg h9] at hh
          replace h9 := Bool.eq_false_iff.mpr h9
          refine zb fun K kk hK => ?_
          simp only [go_sem, h9, of_decide_eq_false h9]
          (repeat refine sd ?_)
          refine hK _ _ fun nx => ?_; clear hK K; try clear kk
          refine zi ?_; refine nmx ?_
          obtain hR := Option.some.inj hh
          subst hR
          exact zy
      · rw [if_neg h8] at hh
        replace h8 := Bool.eq_false_iff.mpr h8
        refine zh (by first | exact congrArg PV.bool h8 | rfl) ?_
        refine zk ?_
        refine zb fun K kk hK => ?_
        simp only [go_sem]
        refine hK _ _ fun nx => ?_; clear hK K; try clear kk
        by_cases h16 : (s_1.Kind == (109 : Int)) = true
        · rw [if_pos h16] at hh
          refine zm (by first | exact congrArg PV.bool h16 | rfl) ?_
          refine zx ?_; refine nmx ?_
          refine zm (by first | exact congrArg PV.bool h16 | rfl) ?_
          by_cases h17 : (Vy) = true
          · rw [if_pos h17] at hh
            obtain ⟨alY, h18, hh⟩ := ze hh
            by_cases h19 : (alY) = true
            · rw [if_pos h19] at hh
              by_cases h20 : ((s_1.wM.length : Int) == (0 : Int)) = true
              · rw [if_pos h20] at hh
                refine zb fun K kk hK => ?_
                simp only [go_sem, h17, h19, h20]
                (repeat refine sd ?_)
                refine zf (qL _ _ h18) (by (try simp only [go_sem, h17, h19, h20]) <;> exact wkl) (by rfl) (by rfl) ?_
                simp only [go_sem, h17, h19, h20]
                (repeat refine sd ?_)
                refine hK _ _ fun nx => ?_; clear hK K; try clear kk
                refine zi ?_; refine nmx ?_
                obtain hR := Option.some.inj hh
                subst hR
                exact zy
              · rw [if_neg h20] at hh
                replace h20 := Bool.eq_false_iff.mpr h20
                refine zb fun K kk hK => ?_
                simp only [go_sem, h17, h19, h20]
                (repeat refine sd ?_)
                refine zf (qL _ _ h18) (by (try simp only [go_sem, h17, h19, h20]) <;> exact wkl) (by rfl) (by rfl) ?_
                simp only [go_sem, h17, h19, h20]
                (repeat refine sd ?_)
                refine hK _ _ fun nx => ?_; clear hK K; try clear kk
                refine zi ?_; refine nmx ?_
                obtain hR := Option.some.inj hh
                subst hR
                exact zy
            · rw [if_neg h19] at hh
              replace h19 := Bool.eq_false_iff.mpr h19
              refine zb fun K kk hK => ?_
              simp only [go_sem, h17, h19]
              (repeat refine sd ?_)
              refine zf (qL _ _ h18) (by (try simp only [go_sem, h17, h19]) <;> exact wkl) (by rfl) (by rfl) ?_
              simp only [go_sem, h17, h19]
              (repeat refine sd ?_)
              refine hK _ _ fun nx => ?_; clear hK K; try clear kk
              refine zi ?_; refine nmx ?_
              obtain hR := Option.some.inj hh
              subst hR
              exact zy
          · rw [if_neg h17] at hh
            replace h17 := Bool.eq_false_iff.mpr h17
            refine zb fun K kk hK => ?_
            simp only [go_sem, h17]
            (repeat refine sd ?_)
            refine hK _ _ fun nx => ?_; clear hK K; try clear kk
            refine zi ?_; refine nmx ?_
            obtain hR := Option.some.inj hh
            subst hR
            exact zy
        · rw [if_neg h16] at hh
          replace h16 := Bool.eq_false_iff.mpr h16
          refine zh (by first | exact congrArg PV.bool h16 | rfl) ?_
          refine zq fun K kk hK => ?_
          simp only [go_sem]
          refine hK _ _ fun nx => ?_; clear hK K; try clear kk
          refine nmx ?_
          by_cases h21 : (s_1.Kind == (117 : Int)) = true
          · rw [if_pos h21] at hh
            refine zm (by first | exact congrArg PV.bool h21 | rfl) ?_
            by_cases h22 : (Vy) = true
            · rw [if_pos h22] at hh
              obtain ⟨alM, h23, hh⟩ := ze hh
              by_cases h24 : (alM) = true
              · rw [if_pos h24] at hh
                by_cases h25 : ((s_1.wM.length : Int) == (0 : Int)) = true
                · rw [if_pos h25] at hh
                  refine zb fun K kk hK => ?_
                  simp only [go_sem, h22, h24, h25]
                  (repeat refine sd ?_)
                  refine zf (qL _ _ h23) (by (try simp only [go_sem, h22, h24, h25]) <;> exact wkl) (by rfl) (by rfl) ?_
                  simp only [go_sem, h22, h24, h25]
                  (repeat refine sd ?_)
                  refine hK _ _ fun nx => ?_; clear hK K; try clear kk
                  refine zi ?_; refine nmx ?_
                  obtain hR := Option.some.inj hh
                  subst hR
                  exact zy
                · rw [if_neg h25] at hh
                  replace h25 := Bool.eq_false_iff.mpr h25
                  refine zb fun K kk hK => ?_
                  simp only [go_sem, h22, h24, h25]
                  (repeat refine sd ?_)
                  refine zf (qL _ _ h23) (by (try simp only [go_sem, h22, h24, h25]) <;> exact wkl) (by rfl) (by rfl) ?_
                  simp only [go_sem, h22, h24, h25]
                  (repeat refine sd ?_)
                  refine hK _ _ fun nx => ?_; clear hK K; try clear kk
                  refine zi ?_; refine nmx ?_
                  obtain hR := Option.some.inj hh
                  subst hR
                  exact zy
              · rw [if_neg h24] at hh
                replace h24 := Bool.eq_false_iff.mpr h24
                refine zb fun K kk hK => ?_
                simp only [go_sem, h22, h24]
                (repeat refine sd ?_)
                refine zf (qL _ _ h23) (by (try simp only [go_sem, h22, h24]) <;> exact wkl) (by rfl) (by rfl) ?_
                simp only [go_sem, h22, h24]
                (repeat refine sd ?_)
                refine hK _ _ fun nx => ?_; clear hK K; try clear kk
                refine zi ?_; refine nmx ?_
                obtain hR := Option.some.inj hh
                subst hR
                exact zy
            · rw [if_neg h22] at hh
              replace h22 := Bool.eq_false_iff.mpr h22
              refine zb fun K kk hK => ?_
              simp only [go_sem, h22]
              (repeat refine sd ?_)
              refine hK _ _ fun nx => ?_; clear hK K; try clear kk
              refine zi ?_; refine nmx ?_
              obtain hR := Option.some.inj hh
              subst hR
              exact zy
          · rw [if_neg h21] at hh
            replace h21 := Bool.eq_false_iff.mpr h21
            refine zh (by first | exact congrArg PV.bool h21 | rfl) ?_
            refine zx ?_; refine nmx ?_
            refine zb fun K kk hK => ?_
            simp only [go_sem]
            refine hK _ _ fun nx => ?_; clear hK K; try clear kk
            refine zi ?_; refine nmx ?_
            obtain hR := Option.some.inj hh
            subst hR
            exact zy
  · intro i s h; exact h.elim
  · intro s h; exact h.elim
theorem kv (v_1 : Int) (Ku : qx) (R : (Int × qx)) (hh : ku v_1 Ku = some R) : BD Tryd.prog 96 [.box 1000 0 0, .box 1001 0 0] [.var 31 [.int .i64 v_1], .var 123 [.list 1 (Ku.path.map (PV.int .i64)), .str Ku.in_.Kind, .str Ku.in_.Text, .list 1 (Ku.in_.Marks.map PV.str), .list 2 (Ku.in_.zu.map zg.pv), .list 5 (Ku.in_.Kids.map za.pv), .int .i64 Ku.from_, .int .i64 Ku.to_]] (.tup []) [.var 31 [.int .i64 R.1], .var 123 [.list 1 (R.2.path.map (PV.int .i64)), .str R.2.in_.Kind, .str R.2.in_.Text, .list 1 (R.2.in_.Marks.map PV.str), .list 2 (R.2.in_.zu.map zg.pv), .list 5 (R.2.in_.Kids.map za.pv), .int .i64 R.2.from_, .int .i64 R.2.to_]] := by
  rw [ku] at hh
  refine JP rfl rfl rfl ?_
  refine zb fun K kk hK => ?_
  simp only [go_sem]
  refine hK _ _ fun nx => ?_; clear hK K; try clear kk
  by_cases h1 : (v_1 != (0 : Int)) = true
  · rw [if_pos h1] at hh
    refine zm (by first | exact congrArg PV.bool h1 | rfl) ?_
    refine zq fun K kk hK => ?_
    simp only [go_sem]
    refine hK _ _ fun nx => ?_; clear hK K; try clear kk
    refine nmx ?_
    obtain hR := Option.some.inj hh
    subst hR
    refine Xd ?_
    refine kH ?_ (by rfl) ?_
    · simp only [go_sem, wo, jo, wX, kS, yC, List.map_cons, List.map_append, List.head?_cons, h1]
      all_goals exact wkw
    · (try simp only [go_sem, h1]); (try simp only [List.length_append, List.map_append]); all_goals exact wkb
  · rw [if_neg h1] at hh
    replace h1 := Bool.eq_false_iff.mpr h1
    refine zh (by first | exact congrArg PV.bool h1 | rfl) ?_
    refine zx ?_; refine nmx ?_
    obtain hR := Option.some.inj hh
    subst hR
    refine Xd ?_
    refine kH ?_ (by rfl) ?_
    · simp only [go_sem, wo, jo, wX, kS, yC, List.map_cons, List.map_append, List.head?_cons, h1]
      all_goals exact wkw
    · (try simp only [go_sem, h1]); (try simp only [List.length_append, List.map_append]); all_goals exact wkb
theorem Yu (kI : (List Int)) (vD : (List Int)) (R : Bool) (hh : slices_Equal_int kI vD = some R) : PC Tryd.prog 98 [.list 1 (kI.map (PV.int .i64)), .list 1 (vD.map (PV.int .i64))] (.bool R) := by
  rw [slices_Equal_int] at hh
  refine Ji rfl ?_
  refine zb fun K kk hK => ?_
  simp only [go_sem]
  refine hK _ _ fun nx => ?_; clear hK K; try clear kk
  refine zk ?_
  refine zb fun K kk hK => ?_
  simp only [go_sem]
  refine hK _ _ fun nx => ?_; clear hK K; try clear kk
  by_cases h1 : ((kI.length : Int) != (vD.length : Int)) = true
  · rw [if_pos h1] at hh
    refine zm (by first | exact congrArg PV.bool h1 | rfl) ?_
    refine zb fun K kk hK => ?_
    simp only [go_sem]
    refine hK _ _ fun nx => ?_; clear hK K; try clear kk
    refine zi ?_; refine nmx ?_
    obtain hR := Option.some.inj hh
    subst hR
    exact zy
  · rw [if_neg h1] at hh
    replace h1 := Bool.eq_false_iff.mpr h1
    refine zh (by first | exact congrArg PV.bool h1 | rfl) ?_
    refine zx ?_; refine nmx ?_
    refine zk ?_
    refine zb fun K kk hK => ?_
    simp only [go_sem]
    refine hK _ _ fun nx => ?_; clear hK K; try clear kk
    obtain ⟨e0, f0, hh⟩ := ze hh
    obtain ⟨hlen0, f0⟩ := zY f0
    refine qz (wZ (fun s => .inr () = e0 ∧ ∃ (QH : Int) (Wj : Bool) (nx : Nat), s = ⟨[(0, .list 1 (kI.map (PV.int .i64))), (1, .list 1 (vD.map (PV.int .i64))), (12, .int .i64 (kI.length : Int)), (13, .int .i64 QH), (14, .bool Wj)], [], nx⟩))
      (fun i s => False)
      (fun s => ∃ wG, .inl wG = e0 ∧ zQ Tryd.prog [.tmp 4] (.bool wG) [] .ret s) ?_ ?_ ?_ ?_
    · refine zC ?_
      refine qp fun I hI => ?_
      have key : ∀ (suf pre : List Int) (v_5 : Int), kI = pre ++ suf → v_5 = (pre.length : Int) → vQ vD suf v_5 = some e0 → ∀ (nx : Nat), I ⟨[(0, .list 1 (kI.map (PV.int .i64))), (1, .list 1 (vD.map (PV.int .i64))), (12, .int .i64 (kI.length : Int)), (13, .int .i64 v_5)], [], nx⟩ := by
        intro suf
        induction suf with
        | nil =>
          intro pre v_5 hsplit hidx hh nx
          rw [vQ] at hh
          refine hI _ ?_
          have h10 := walk_nil hsplit hidx
          refine zb fun K kk hK => ?_
          simp only [go_sem]
          refine hK _ _ fun nx => ?_; clear hK K; try clear kk
          refine zk ?_
          refine zh (by first | exact congrArg PV.bool h10 | rfl) ?_
          refine qa ?_; refine nmx ?_
          refine kF ?_
          refine zH ?_
          refine ⟨(Option.some.inj hh), ?_⟩
          first | exact ⟨_, _, _, rfl⟩ | (simp only [pvE, lsE, zn]; exact ⟨_, _, _, rfl⟩) | (simp only [pvE, lsE, zn, h1, h10]; exact ⟨_, _, _, rfl⟩)
        | cons y_8 suf ih =>
          intro pre v_5 hsplit hidx hh nx
          rw [vQ] at hh
          refine hI _ ?_
          obtain ⟨hl0a, hl0b, hl0d, hl0w, h10⟩ := qF (f := (PV.int .i64)) hsplit hidx hlen0
          refine zb fun K kk hK => ?_
          simp only [go_sem]
          refine hK _ _ fun nx => ?_; clear hK K; try clear kk
          refine zk ?_
          refine zm (by first | exact congrArg PV.bool h10 | rfl) ?_
          refine zx ?_; refine nmx ?_
          refine zk ?_
          refine zC ?_
          refine zb fun K kk hK => ?_
          simp only [go_sem, hl0a, hl0b, hl0d, hl0w]
          refine hK _ _ fun nx => ?_; clear hK K; try clear kk
          obtain ⟨x_9, h11, hh⟩ := ze hh
          obtain ⟨h11a, h11b, h11c⟩ := rd_some h11
          have h11d := vz (f := (PV.int .i64)) h11c
          have h11f := wY (f := (PV.int .i64)) h11c
          try simp only [Int.toNat_natCast, Int.reduceToNat] at h11d h11f
          refine zb fun K kk hK => ?_
          simp only [go_sem, h11a, h11b, h11d, h11f.1, h11f.2, hl0a, hl0b, hl0d, hl0w]
          (repeat refine sd ?_)
          refine hK _ _ fun nx => ?_; clear hK K; try clear kk
          by_cases h12 : (y_8 != x_9) = true
          · rw [if_pos h12] at hh
            refine zm (by first | exact congrArg PV.bool h12 | rfl) ?_
            refine zb fun K kk hK => ?_
            simp only [go_sem, hl0a, hl0b, hl0d, hl0w]
            refine hK _ _ fun nx => ?_; clear hK K; try clear kk
            refine zi ?_; refine nmx ?_
            refine Z8 ⟨_, (Option.some.inj hh), ?_⟩
            exact zy
          · rw [if_neg h12] at hh
            replace h12 := Bool.eq_false_iff.mpr h12
            refine zh (by first | exact congrArg PV.bool h12 | rfl) ?_
            refine zx ?_; refine nmx ?_
            refine zq fun K kk hK => ?_
            simp only [go_sem, hl0a, hl0b, hl0d, hl0w]
            refine hK _ _ fun nx => ?_; clear hK K; try clear kk
            refine nmx ?_
            have ih' := ih (pre ++ [y_8]) (v_5 + 1) (by rw [hsplit]; simp) (by simp [hidx]) hh nx
            refine zH ?_
            first | exact ih' | (simp only [pvE, lsE, zn] at ih' ⊢; exact ih') | (simp only [pvE, lsE, zn, h1, h10, h12] at ih' ⊢; exact ih')
      exact key kI [] _ rfl rfl f0 _
    · rintro s ⟨t, hless, rfl, QH, Wj, nx, rfl⟩
      try dsimp only at hh
      refine nmy ?_
      first | (refine wu hless ?_; try refine ko ?_) | refine qG hless ?_ | refine qI hless ?_
      refine zb fun K kk hK => ?_
      simp only [go_sem]
      refine hK _ _ fun nx => ?_; clear hK K; try clear kk
      refine zi ?_; refine nmx ?_
      obtain hR := Option.some.inj hh
      subst hR
      exact zy
    · intro i s h; exact h.elim
    · rintro s ⟨wG, rfl, hb⟩
      try dsimp only at hh
      obtain hR := Option.some.inj hh
      subst hR
      refine nmx ?_
      exact hb
theorem aeP (n_1 : za) (qV : (List Int)) (R : (Int × Int)) (hh : X3 n_1 qV = some R) : PC Tryd.prog 99 [.agg [.str n_1.Kind, .str n_1.Text, .list 1 (n_1.Marks.map PV.str), .list 2 (n_1.zu.map zg.pv), .list 5 (n_1.Kids.map za.pv)], .list 1 (qV.map (PV.int .i64))] (.tup [.int .i64 R.1, .int .i64 R.2]) := by
  rw [X3] at hh
  refine ace rfl ?_
  refine zb fun K kk hK => ?_
  simp only [go_sem]
  refine hK _ _ fun nx => ?_; clear hK K; try clear kk
  refine zk ?_
  obtain ⟨⟨r_3, r_4⟩, h1, hh⟩ := ze hh
  dsimp only at hh
  refine zb fun K kk hK => ?_
  simp only [go_sem]
  refine zf (xO _ _ _ h1) (by (try simp only [go_sem]) <;> exact wkl) (by rfl) (by rfl) ?_
  simp only [go_sem]
  refine hK _ _ fun nx => ?_; clear hK K; try clear kk
  refine zb fun K kk hK => ?_
  simp only [go_sem]
  refine hK _ _ fun nx => ?_; clear hK K; try clear kk
  by_cases h2 : (r_4 != (0 : Int)) = true
  · rw [if_pos h2] at hh
    refine zm (by first | exact congrArg PV.bool h2 | rfl) ?_
    refine zb fun K kk hK => ?_
    simp only [go_sem]
    refine hK _ _ fun nx => ?_; clear hK K; try clear kk
    refine zi ?_; refine nmx ?_
    obtain hR := Option.some.inj hh
    subst hR
    exact zy
  · rw [if_neg h2] at hh
    replace h2 := Bool.eq_false_iff.mpr h2
    refine zh (by first | exact congrArg PV.bool h2 | rfl) ?_
    refine zx ?_; refine nmx ?_
    refine zb fun K kk hK => ?_
    simp only [go_sem]
    refine hK _ _ fun nx => ?_; clear hK K; try clear kk
    refine zk ?_
    refine zb fun K kk hK => ?_
    simp only [go_sem]
    refine hK _ _ fun nx => ?_; clear hK K; try clear kk
    obtain ⟨e0, f0, hh⟩ := ze hh
    obtain ⟨hlen0, f0⟩ := zY f0
    refine qz (wZ (fun s => ∃ ajy, ajy = e0 ∧ ∃ (atI : Int) (atX : Bool) (aoj : za) (nx : Nat) (g2 : Nat), s = ⟨[(2, .box 2 g2 0), (8, .int .i64 ajy), (20, .list 1 (qV.map (PV.int .i64))), (21, .int .i64 (qV.length : Int)), (22, .int .i64 atI), (23, .bool atX)], [(2, g2, .var 28 [.str aoj.Kind, .str aoj.Text, .list 1 (aoj.Marks.map PV.str), .list 2 (aoj.zu.map zg.pv), .list 5 (aoj.Kids.map za.pv)])], nx⟩))
      (fun i s => False)
      (fun s => False) ?_ ?_ ?_ ?_
    · refine zC ?_
      refine qp fun I hI => ?_
      have key : ∀ (suf pre : List Int) (QH : Int) (adV : Int) (n_9 : za), qV = pre ++ suf → QH = (pre.length : Int) → xP suf QH adV n_9 = some e0 → ∀ (nx : Nat) (g2 : Nat), I ⟨[(2, .box 2 g2 0), (8, .int .i64 adV), (20, .list 1 (qV.map (PV.int .i64))), (21, .int .i64 (qV.length : Int)), (22, .int .i64 QH)], [(2, g2, .var 28 [.str n_9.Kind, .str n_9.Text, .list 1 (n_9.Marks.map PV.str), .list 2 (n_9.zu.map zg.pv), .list 5 (n_9.Kids.map za.pv)])], nx⟩ := by
        intro suf
        induction suf with
        | nil =>
          intro pre QH adV n_9 hsplit hidx hh nx g2
          rw [xP] at hh
          refine hI _ ?_
          have h13 := walk_nil hsplit hidx
          refine zb fun K kk hK => ?_
          simp only [go_sem]
          refine hK _ _ fun nx => ?_; clear hK K; try clear kk
          refine zk ?_
          refine zh (by first | exact congrArg PV.bool h13 | rfl) ?_
          refine qa ?_; refine nmx ?_
          refine kF ?_
          refine zH ?_
          refine ⟨_, (Option.some.inj hh), ?_⟩
          first | exact ⟨_, _, _, _, _, rfl⟩ | (simp only [pvE, lsE, zn]; exact ⟨_, _, _, _, _, rfl⟩) | (simp only [pvE, lsE, zn, h13, h2]; exact ⟨_, _, _, _, _, rfl⟩)
        | cons aqO suf ih =>
          intro pre QH adV n_9 hsplit hidx hh nx g2
          rw [xP] at hh
          refine hI _ ?_
          obtain ⟨hl0a, hl0b, hl0d, hl0w, h13⟩ := qF (f := (PV.int .i64)) hsplit hidx hlen0
          refine zb fun K kk hK => ?_
          simp only [go_sem]
          refine hK _ _ fun nx => ?_; clear hK K; try clear kk
          refine zk ?_
          refine zm (by first | exact congrArg PV.bool h13 | rfl) ?_
          refine zx ?_; refine nmx ?_
          refine zk ?_
          refine zC ?_
          refine zb fun K kk hK => ?_
          simp only [go_sem, hl0a, hl0b, hl0d, hl0w]
          refine hK _ _ fun nx => ?_; clear hK K; try clear kk
          obtain ⟨atZ, h14, hh⟩ := ze hh
          obtain ⟨h14a, h14c⟩ := QS h14
          have h14g := YD h14a
          have h14d := Yd (f := za.pv) h14c
          try simp only [Int.toNat_natCast, Int.reduceToNat, List.map_cons, List.map_nil, pvE] at h14d
          obtain ⟨ajP, h15, hh⟩ := ze hh
          refine zb fun K kk hK => ?_
          simp only [go_sem, h14a.1, h14a.2.1, h14a.2.2, h14d, h14g, hl0a, hl0b, hl0d, hl0w]
          (repeat refine sd ?_)
          refine zf (xx _ _ h15) (by (try simp only [go_sem, h14a.1, h14a.2.1, h14a.2.2, h14d, h14g, hl0a, hl0b, hl0d, hl0w]) <;> exact wkl) (by rfl) (by rfl) ?_
          simp only [go_sem, h14a.1, h14a.2.1, h14a.2.2, h14d, h14g, hl0a, hl0b, hl0d, hl0w]
          (repeat refine sd ?_)
          refine hK _ _ fun nx => ?_; clear hK K; try clear kk
          obtain ⟨asV, h16, hh⟩ := ze hh
          obtain ⟨h16a, h16b, h16c⟩ := rd_some h16
          have h16d := vz (f := za.pv) h16c
          have h16f := wY (f := za.pv) h16c
          try simp only [Int.toNat_natCast, Int.reduceToNat] at h16d h16f
          refine zq fun K kk hK => ?_
          simp only [go_sem, h16a, h16b, h16d, h16f.1, h16f.2, hl0a, hl0b, hl0d, hl0w]
          (repeat refine sd ?_)
          refine hK _ _ fun nx => ?_; clear hK K; try clear kk
          refine nmx ?_
          refine zq fun K kk hK => ?_
          simp only [go_sem, hl0a, hl0b, hl0d, hl0w]
          refine hK _ _ fun nx => ?_; clear hK K; try clear kk
          refine nmx ?_
          have ih' := ih (pre ++ [aqO]) (QH + 1) _ _ (by rw [hsplit]; simp) (by simp [hidx]) hh nx
          refine zH ?_
          first | exact ih' _ | (simp only [pvE, lsE, zn] at ih' ⊢; exact ih' _) | (simp only [pvE, lsE, zn, h13, h2] at ih' ⊢; exact ih' _)
      exact key qV [] _ _ _ rfl rfl f0 _ _
    · rintro s ⟨t, hless, ajy, rfl, atI, atX, aoj, nx, g2, rfl⟩
      try dsimp only at hh
      refine nmy ?_
      first | (refine wu hless ?_; try refine ko ?_) | refine qG hless ?_ | refine qI hless ?_
      refine zb fun K kk hK => ?_
      simp only [go_sem]
      refine hK _ _ fun nx => ?_; clear hK K; try clear kk
      refine zi ?_; refine nmx ?_
      obtain hR := Option.some.inj hh
      subst hR
      exact zy
    · intro i s h; exact h.elim
    · intro s h; exact h.elim
theorem ae9 (n_1 : za) (xz : Int) (JS : Int) (R : (qx × Int)) (hh : X8 n_1 xz JS = some R) : PC Tryd.prog 72 [.agg [.str n_1.Kind, .str n_1.Text, .list 1 (n_1.Marks.map PV.str), .list 2 (n_1.zu.map zg.pv), .list 5 (n_1.Kids.map za.pv)], .int .i64 xz, .int .i64 JS] (.tup [.agg [.list 1 (R.1.path.map (PV.int .i64)), .str R.1.in_.Kind, .str R.1.in_.Text, .list 1 (R.1.in_.Marks.map PV.str), .list 2 (R.1.in_.zu.map zg.pv), .list 5 (R.1.in_.Kids.map za.pv), .int .i64 R.1.from_, .int .i64 R.1.to_], .int .i64 R.2]) := by
  rw [X8] at hh
  refine abC rfl ?_
  refine zq fun K kk hK => ?_
  simp only [go_sem]
  refine hK _ _ fun nx => ?_; clear hK K; try clear kk
  refine nmx ?_
  refine asn 7 6 _ _ _ _ _ _ [1, 2, 3] [3] ⟨rfl, rfl, rfl, rfl, by decide, by decide, by decide, rfl, rfl, rfl, rfl⟩ rfl ?_
  refine asu (t := ⟨[(7, .box 1000 0 0), (6, .box 1001 0 0), (1, .int .i64 xz), (2, .int .i64 JS), (3, .box 3 _ 0)], [(1000, 0, .var 31 [.int .i64 (0 : Int)]), (1001, 0, .var 123 [.list 1 ([].map (PV.int .i64)), .str ([] : Str), .str ([] : Str), .list 1 ([].map PV.str), .list 2 ([].map zg.pv), .list 5 ([].map za.pv), .int .i64 (0 : Int), .int .i64 (0 : Int)]), (3, _, .var 28 [.str n_1.Kind, .str n_1.Text, .list 1 (n_1.Marks.map PV.str), .list 2 (n_1.zu.map zg.pv), .list 5 (n_1.Kids.map za.pv)])], nx⟩) ?_ (by rfl)
  refine zk ?_
  by_cases h1 : (n_1.Kind == ([116, 101, 120, 116] : Str)) = true
  · rw [if_pos h1] at hh
    refine zb fun K kk hK => ?_
    simp only [go_sem, h1]
    (repeat refine sd ?_)
    refine hK _ _ fun nx => ?_; clear hK K; try clear kk
    refine zm rfl ?_
    refine zb fun K kk hK => ?_
    simp only [go_sem]
    refine hK _ _ fun nx => ?_; clear hK K; try clear kk
    refine zi ?_; refine nmx ?_
    obtain ⟨⟨v_4, ap2⟩, h2, hh⟩ := ze hh
    dsimp only at hh
    obtain hR := Option.some.inj hh
    subst hR
    refine QD (kv _ _ _ h2) (by (try simp only [go_sem, h1]) <;> exact wkb) (by rfl) ?_ (by rfl)
    simp only [St.Kj, dKs, go_sem, h1, wo, jo, wX, kS, yC, List.map_cons, List.map_append, List.head?_cons]
    all_goals exact wkw
  · rw [if_neg h1] at hh
    replace h1 := Bool.eq_false_iff.mpr h1
    obtain ⟨ajj, h3, hh⟩ := ze hh
    refine zb fun K kk hK => ?_
    simp only [go_sem, h1]
    (repeat refine sd ?_)
    refine zf (Y0 _ _ h3) (by (try simp only [go_sem, h1]) <;> exact wkl) (by rfl) (by rfl) ?_
    simp only [go_sem, h1]
    (repeat refine sd ?_)
    refine hK _ _ fun nx => ?_; clear hK K; try clear kk
    by_cases h4 : (!ajj) = true
    · rw [if_pos h4] at hh
      refine zm (by first | exact congrArg PV.bool h4 | rfl) ?_
      refine zb fun K kk hK => ?_
      simp only [go_sem]
      refine hK _ _ fun nx => ?_; clear hK K; try clear kk
      refine zi ?_; refine nmx ?_
      obtain ⟨⟨v_7, aot⟩, h5, hh⟩ := ze hh
      dsimp only at hh
      obtain hR := Option.some.inj hh
      subst hR
      refine QD (kv _ _ _ h5) (by (try simp only [go_sem, h1, h4]) <;> exact wkb) (by rfl) ?_ (by rfl)
      simp only [St.Kj, dKs, go_sem, h1, h4, wo, jo, wX, kS, yC, List.map_cons, List.map_append, List.head?_cons]
      all_goals exact wkw
    · rw [if_neg h4] at hh
      replace h4 := Bool.eq_false_iff.mpr h4
      refine zh (by first | exact congrArg PV.bool h4 | rfl) ?_
      refine zx ?_; refine nmx ?_
      obtain ⟨⟨r_9, V8⟩, h6, hh⟩ := ze hh
      dsimp only at hh
      refine zb fun K kk hK => ?_
      simp only [go_sem]
      refine zf (QL _ _ _ h6) (by (try simp only [go_sem]) <;> exact wkl) (by rfl) (by rfl) ?_
      simp only [go_sem]
      refine hK _ _ fun nx => ?_; clear hK K; try clear kk
      refine zk ?_
      refine zb fun K kk hK => ?_
      simp only [go_sem]
      refine hK _ _ fun nx => ?_; clear hK K; try clear kk
      by_cases h7 : (V8 != (0 : Int)) = true
      · rw [if_pos h7] at hh
        refine zm (by first | exact congrArg PV.bool h7 | rfl) ?_
        refine zb fun K kk hK => ?_
        simp only [go_sem]
        refine hK _ _ fun nx => ?_; clear hK K; try clear kk
        refine zi ?_; refine nmx ?_
        obtain ⟨⟨QH, am0⟩, h8, hh⟩ := ze hh
        dsimp only at hh
        obtain hR := Option.some.inj hh
        subst hR
        refine QD (kv _ _ _ h8) (by (try simp only [go_sem, h1, h4, h7]) <;> exact wkb) (by rfl) ?_ (by rfl)
        simp only [St.Kj, dKs, go_sem, h1, h4, h7, wo, jo, wX, kS, yC, List.map_cons, List.map_append, List.head?_cons]
        all_goals exact wkw
      · rw [if_neg h7] at hh
        replace h7 := Bool.eq_false_iff.mpr h7
        refine zh (by first | exact congrArg PV.bool h7 | rfl) ?_
        refine zx ?_; refine nmx ?_
        obtain ⟨⟨Xp, aei⟩, h9, hh⟩ := ze hh
        dsimp only at hh
        refine zb fun K kk hK => ?_
        simp only [go_sem]
        refine zf (QL _ _ _ h9) (by (try simp only [go_sem]) <;> exact wkl) (by rfl) (by rfl) ?_
        simp only [go_sem]
        refine hK _ _ fun nx => ?_; clear hK K; try clear kk
        refine zk ?_
        refine zC ?_
        refine zb fun K kk hK => ?_
        simp only [go_sem]
        refine hK _ _ fun nx => ?_; clear hK K; try clear kk
        by_cases h10 : (aei != (0 : Int)) = true
        · rw [if_pos h10] at hh
          refine zm (by first | exact congrArg PV.bool h10 | rfl) ?_
          refine zb fun K kk hK => ?_
          simp only [go_sem]
          refine hK _ _ fun nx => ?_; clear hK K; try clear kk
          refine zi ?_; refine nmx ?_
          obtain ⟨⟨afW, amz⟩, h11, hh⟩ := ze hh
          dsimp only at hh
          obtain hR := Option.some.inj hh
          subst hR
          refine QD (kv _ _ _ h11) (by (try simp only [go_sem, h1, h10, h4, h7]) <;> exact wkb) (by rfl) ?_ (by rfl)
          simp only [St.Kj, dKs, go_sem, h1, h10, h4, h7, wo, jo, wX, kS, yC, List.map_cons, List.map_append, List.head?_cons]
          all_goals exact wkw
        · rw [if_neg h10] at hh
          replace h10 := Bool.eq_false_iff.mpr h10
          refine zh (by first | exact congrArg PV.bool h10 | rfl) ?_
          refine zb fun K kk hK => ?_
          simp only [go_sem]
          refine hK _ _ fun nx => ?_; clear hK K; try clear kk
          by_cases h12 : (decide (JS < xz)) = true
          · rw [if_pos h12] at hh
            refine zm (by first | exact congrArg PV.bool h12 | rfl) ?_
            refine zb fun K kk hK => ?_
            simp only [go_sem]
            refine hK _ _ fun nx => ?_; clear hK K; try clear kk
            refine zi ?_; refine nmx ?_
            obtain ⟨⟨aki, amM⟩, h13, hh⟩ := ze hh
            dsimp only at hh
            obtain hR := Option.some.inj hh
            subst hR
            refine QD (kv _ _ _ h13) (by (try simp only [go_sem, h1, h10, h12, h4, h7]) <;> exact wkb) (by rfl) ?_ (by rfl)
            simp only [St.Kj, dKs, go_sem, h1, h10, h12, h4, h7, wo, jo, wX, kS, yC, List.map_cons, List.map_append, List.head?_cons]
            all_goals exact wkw
          · rw [if_neg h12] at hh
            replace h12 := Bool.eq_false_iff.mpr h12
            refine zh (by first | exact congrArg PV.bool h12 | rfl) ?_
            obtain ⟨alk, h14, hh⟩ := ze hh
            refine zb fun K kk hK => ?_
            simp only [go_sem]
            refine zf (Yu _ _ _ h14) (by (try simp only [go_sem]) <;> exact wkl) (by rfl) (by rfl) ?_
            simp only [go_sem]
            refine hK _ _ fun nx => ?_; clear hK K; try clear kk
            by_cases h15 : (!alk) = true
            · rw [if_pos h15] at hh
              refine zm (by first | exact congrArg PV.bool h15 | rfl) ?_
              refine zb fun K kk hK => ?_
              simp only [go_sem]
              refine hK _ _ fun nx => ?_; clear hK K; try clear kk
              refine zi ?_; refine nmx ?_
              obtain ⟨⟨aow, anb⟩, h16, hh⟩ := ze hh
              dsimp only at hh
              obtain hR := Option.some.inj hh
              subst hR
              refine QD (kv _ _ _ h16) (by (try simp only [go_sem, h1, h10, h12, h15, h4, h7]) <;> exact wkb) (by rfl) ?_ (by rfl)
              simp only [St.Kj, dKs, go_sem, h1, h10, h12, h15, h4, h7, wo, jo, wX, kS, yC, List.map_cons, List.map_append, List.head?_cons]
              all_goals exact wkw
            · rw [if_neg h15] at hh
              replace h15 := Bool.eq_false_iff.mpr h15
              refine zh (by first | exact congrArg PV.bool h15 | rfl) ?_
              refine zx ?_; refine nmx ?_
              obtain ⟨⟨asM, aua⟩, h17, hh⟩ := ze hh
              dsimp only at hh
              refine zb fun K kk hK => ?_
              simp only [go_sem]
              refine zf (aeP _ _ _ h17) (by (try simp only [go_sem]) <;> exact wkl) (by rfl) (by rfl) ?_
              simp only [go_sem]
              refine hK _ _ fun nx => ?_; clear hK K; try clear kk
              obtain ⟨⟨atM, at0⟩, h18, hh⟩ := ze hh
              dsimp only at hh
              refine zb fun K kk hK => ?_
              simp only [go_sem]
              refine zf (xO _ _ _ h18) (by (try simp only [go_sem]) <;> exact wkl) (by rfl) (by rfl) ?_
              simp only [go_sem]
              refine hK _ _ fun nx => ?_; clear hK K; try clear kk
              refine zb fun K kk hK => ?_
              simp only [go_sem]
              refine hK _ _ fun nx => ?_; clear hK K; try clear kk
              refine zi ?_; refine nmx ?_
              obtain ⟨⟨Xr, amJ⟩, h19, hh⟩ := ze hh
              dsimp only at hh
              obtain hR := Option.some.inj hh
              subst hR
              refine QD (kv _ _ _ h19) (by (try simp only [go_sem, h1, h10, h12, h15, h4, h7]) <;> exact wkb) (by rfl) ?_ (by rfl)
              simp only [St.Kj, dKs, go_sem, h1, h10, h12, h15, h4, h7, wo, jo, wX, kS, yC, List.map_cons, List.map_append, List.head?_cons]
              all_goals exact wkw
end Go.Proofs.YtclohbgnaopjfaaDoor
