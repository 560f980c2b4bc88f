/- Texts of the proof of diffChainCard -/
import Derived.Test.YtclohbgnaopjfaaDoorAgC
import Derived.Test.YtclohbgnaopjfaaDoorAgF
import Derived.Test.YtclohbgnaopjfaaDoorAgK0
import Derived.Test.YtclohbgnaopjfaaDoorAgK1
import Derived.Test.YtclohbgnaopjfaaDoorAgK6
namespace Go.Proofs.YtclohbgnaopjfaaDoor
set_option linter.unusedSimpArgs false
set_option linter.unusedVariables false
open Go
set_option maxRecDepth 100000
theorem ajq (s_1 : zo) (R : Bool) (hh : yx s_1 = some R) : PC Tryd.prog 48 [.agg [.int .u8 s_1.Kind, .int .i64 s_1.From, .int .i64 s_1.To, .list 5 (s_1.kF.map za.pv), .str s_1.Name, .str s_1.Value]] (.bool R) := by
 rw [yx] at hh
 refine aeR rfl ?_
 refine zb fun K kk hK => ?_
 simp only [go_sem]
 refine hK _ _ fun nx => ?_; clear hK K; try clear kk
 refine zm ?_
 obtain ⟨e0, f0, hh⟩ := zf hh
 refine QR (fun s => ∃ JU, JU = e0 ∧ ∃ (nx : Nat) (g1 : Nat), s = ⟨[(1, .box 1 g1 0), (3, .bool JU)], [(1, g1, .var 39 [.int .u8 s_1.Kind, .int .i64 s_1.From, .int .i64 s_1.To, .list 5 (s_1.kF.map za.pv), .str s_1.Name, .str s_1.Value])], nx⟩)
  (fun i s => False)
  (fun s => False) ?_ ?_ ?_ ?_
 ·have hh := f0
  by_cases h1 : (decide (s_1.From ≥ (0 : Int))) = true
  ·rw [if_pos h1] at hh
   by_cases h2 : (decide (s_1.From ≤ s_1.To)) = true
   ·rw [if_pos h2] at hh
    refine zu fun K kk hK => ?_
    simp only [go_sem, h1, of_decide_eq_true h1, h2, of_decide_eq_true h2]
    (repeat refine sd ?_)
    refine hK _ _ fun nx => ?_; clear hK K; try clear kk
    refine nmx ?_
    refine wX ?_
    refine zG ?_
    refine ⟨_, (Option.some.inj hh), ?_⟩
    first | exact ⟨_, _, rfl⟩ | (simp only [pvE, lsE, zq]; exact ⟨_, _, rfl⟩) | (simp only [pvE, lsE, zq, h1, h2]; exact ⟨_, _, rfl⟩)
   ·rw [if_neg h2] at hh
    replace h2 := Bool.eq_false_iff.mpr h2
    refine zu fun K kk hK => ?_
    simp only [go_sem, h1, of_decide_eq_true h1, h2, of_decide_eq_false h2]
    (repeat refine sd ?_)
    refine hK _ _ fun nx => ?_; clear hK K; try clear kk
    refine nmx ?_
    refine wX ?_
    refine zG ?_
    refine ⟨_, (Option.some.inj hh), ?_⟩
    first | exact ⟨_, _, rfl⟩ | (simp only [pvE, lsE, zq]; exact ⟨_, _, rfl⟩) | (simp only [pvE, lsE, zq, h1, h2]; exact ⟨_, _, rfl⟩)
  ·rw [if_neg h1] at hh
   replace h1 := Bool.eq_false_iff.mpr h1
   refine zu fun K kk hK => ?_
   simp only [go_sem, h1, of_decide_eq_false h1]
   (repeat refine sd ?_)
   refine hK _ _ fun nx => ?_; clear hK K; try clear kk
   refine nmx ?_
   refine wX ?_
   refine zG ?_
   refine ⟨_, (Option.some.inj hh), ?_⟩
   first | exact ⟨_, _, rfl⟩ | (simp only [pvE, lsE, zq]; exact ⟨_, _, rfl⟩) | (simp only [pvE, lsE, zq, h1]; exact ⟨_, _, rfl⟩)
 ·rintro s ⟨JU, rfl, nx, g1, rfl⟩
  try dsimp only at hh
  refine zm ?_
  refine zb fun K kk hK => ?_
  simp only [go_sem]
  refine hK _ _ fun nx => ?_; clear hK K; try clear kk
  refine zA ?_
  refine zb fun K kk hK => ?_
  simp only [go_sem]
  refine hK _ _ fun nx => ?_; clear hK K; try clear kk
  by_cases h3 : (s_1.Kind == (114 : Int)) = true
  ·rw [if_pos h3] at hh
   refine zn (by first | exact congrArg PV.bool h3 | rfl) ?_
   obtain ⟨alB, h4, hh⟩ := zf hh
   refine zb fun K kk hK => ?_
   simp only [go_sem]
   refine zg (Kl _ _ h4) (by (try simp only [go_sem]) <;> exact wkl) (by rfl) (by rfl) ?_
   simp only [go_sem]
   refine hK _ _ fun nx => ?_; clear hK K; try clear kk
   by_cases h5 : (JU) = true
   ·rw [if_pos h5] at hh
    by_cases h6 : (alB != (2 : Int)) = true
    ·rw [if_pos h6] at hh
     obtain ⟨h7, hh⟩ := qf hh
     refine zb fun K kk hK => ?_
     simp only [go_sem, h5, h6, h7]
     (repeat refine sd ?_)
     refine hK _ _ fun nx => ?_; clear hK K; try clear kk
     refine zk ?_; refine nmx ?_
     obtain hR := Option.some.inj hh
     subst hR
     exact zz
    ·rw [if_neg h6] at hh
     replace h6 := Bool.eq_false_iff.mpr h6
     refine zb fun K kk hK => ?_
     simp only [go_sem, h5, h6]
     (repeat refine sd ?_)
     refine hK _ _ fun nx => ?_; clear hK K; try clear kk
     refine zk ?_; refine nmx ?_
     obtain hR := Option.some.inj hh
     subst hR
     exact zz
   ·rw [if_neg h5] at hh
    replace h5 := Bool.eq_false_iff.mpr h5
    refine zb fun K kk hK => ?_
    simp only [go_sem, h5]
    (repeat refine sd ?_)
    refine hK _ _ fun nx => ?_; clear hK K; try clear kk
    refine zk ?_; refine nmx ?_
    obtain hR := Option.some.inj hh
    subst hR
    exact zz
  ·rw [if_neg h3] at hh
   replace h3 := Bool.eq_false_iff.mpr h3
   refine zi (by first | exact congrArg PV.bool h3 | rfl) ?_
   refine zb fun K kk hK => ?_
   simp only [go_sem]
   refine hK _ _ fun nx => ?_; clear hK K; try clear kk
   by_cases h8 : (s_1.Kind == (97 : Int)) = true
   ·rw [if_pos h8] at hh
    refine zn (by first | exact congrArg PV.bool h8 | rfl) ?_
    by_cases h9 : (decide (s_1.From ≥ (-1 : Int))) = true
    ·rw [if_pos h9] at hh
     by_cases h10 : (decide (s_1.From ≤ (1048576 : Int))) = true
     ·rw [if_pos h10] at hh
      by_cases h11 : (s_1.To == (0 : Int)) = true
      ·rw [if_pos h11] at hh
       obtain ⟨apq, h12, hh⟩ := zf hh
       by_cases h13 : (apq) = true
       ·rw [if_pos h13] at hh
        obtain ⟨amH, h14, hh⟩ := zf hh
        by_cases h15 : (amH) = true
        ·rw [if_pos h15] at hh
         refine zb fun K kk hK => ?_
         simp only [go_sem, h9, of_decide_eq_true h9, h10, of_decide_eq_true h10, h11, h13, h15]
         (repeat refine sd ?_)
         refine zg (wC _ _ h12) (by (try simp only [go_sem, h9, of_decide_eq_true h9, h10, of_decide_eq_true h10, h11, h13, h15]) <;> exact wkl) (by rfl) (by rfl) ?_
         simp only [go_sem, h9, of_decide_eq_true h9, h10, of_decide_eq_true h10, h11, h13, h15]
         (repeat refine sd ?_)
         refine zg (JL _ _ h14) (by (try simp only [go_sem, h9, of_decide_eq_true h9, h10, of_decide_eq_true h10, h11, h13, h15]) <;> exact wkl) (by rfl) (by rfl) ?_
         simp only [go_sem, h9, of_decide_eq_true h9, h10, of_decide_eq_true h10, h11, h13, h15]
         (repeat refine sd ?_)
         refine hK _ _ fun nx => ?_; clear hK K; try clear kk
         refine zk ?_; refine nmx ?_
         obtain hR := Option.some.inj hh
         subst hR
         exact zz
        ·rw [if_neg h15] at hh
         replace h15 := Bool.eq_false_iff.mpr h15
         refine zb fun K kk hK => ?_
         simp only [go_sem, h9, of_decide_eq_true h9, h10, of_decide_eq_true h10, h11, h13, h15]
         (repeat refine sd ?_)
         refine zg (wC _ _ h12) (by (try simp only [go_sem, h9, of_decide_eq_true h9, h10, of_decide_eq_true h10, h11, h13, h15]) <;> exact wkl) (by rfl) (by rfl) ?_
         simp only [go_sem, h9, of_decide_eq_true h9, h10, of_decide_eq_true h10, h11, h13, h15]
         (repeat refine sd ?_)
         refine zg (JL _ _ h14) (by (try simp only [go_sem, h9, of_decide_eq_true h9, h10, of_decide_eq_true h10, h11, h13, h15]) <;> exact wkl) (by rfl) (by rfl) ?_
         simp only [go_sem, h9, of_decide_eq_true h9, h10, of_decide_eq_true h10, h11, h13, h15]
         (repeat refine sd ?_)
         refine hK _ _ fun nx => ?_; clear hK K; try clear kk
         refine zk ?_; refine nmx ?_
         obtain hR := Option.some.inj hh
         subst hR
         exact zz
       ·rw [if_neg h13] at hh
        replace h13 := Bool.eq_false_iff.mpr h13
        refine zb fun K kk hK => ?_
        simp only [go_sem, h9, of_decide_eq_true h9, h10, of_decide_eq_true h10, h11, h13]
        (repeat refine sd ?_)
        refine zg (wC _ _ h12) (by (try simp only [go_sem, h9, of_decide_eq_true h9, h10, of_decide_eq_true h10, h11, h13]) <;> exact wkl) (by rfl) (by rfl) ?_
        simp only [go_sem, h9, of_decide_eq_true h9, h10, of_decide_eq_true h10, h11, h13]
        (repeat refine sd ?_)
        refine hK _ _ fun nx => ?_; clear hK K; try clear kk
        refine zk ?_; refine nmx ?_
        obtain hR := Option.some.inj hh
        subst hR
        exact zz
      ·rw [if_neg h11] at hh
       replace h11 := Bool.eq_false_iff.mpr h11
       refine zb fun K kk hK => ?_
       simp only [go_sem, h9, of_decide_eq_true h9, h10, of_decide_eq_true h10, h11]
       (repeat refine sd ?_)
       refine hK _ _ fun nx => ?_; clear hK K; try clear kk
       refine zk ?_; refine nmx ?_
       obtain hR := Option.some.inj hh
       subst hR
       exact zz
     ·rw [if_neg h10] at hh
      replace h10 := Bool.eq_false_iff.mpr h10
      refine zb fun K kk hK => ?_
      simp only [go_sem, h9, of_decide_eq_true h9, h10, of_decide_eq_false h10]
      (repeat refine sd ?_)
      refine hK _ _ fun nx => ?_; clear hK K; try clear kk
      refine zk ?_; refine nmx ?_
      obtain hR := Option.some.inj hh
      subst hR
      exact zz
    ·rw [if_neg h9] at hh
     replace h9 := Bool.eq_false_iff.mpr h9
     refine zb fun K kk hK => ?_
     simp only [go_sem, h9, of_decide_eq_false h9]
     (repeat refine sd ?_)
     refine hK _ _ fun nx => ?_; clear hK K; try clear kk
     refine zk ?_; refine nmx ?_
     obtain hR := Option.some.inj hh
     subst hR
     exact zz
   ·rw [if_neg h8] at hh
    replace h8 := Bool.eq_false_iff.mpr h8
    refine zi (by first | exact congrArg PV.bool h8 | rfl) ?_
    refine zm ?_
    refine zb fun K kk hK => ?_
    simp only [go_sem]
    refine hK _ _ fun nx => ?_; clear hK K; try clear kk
    by_cases h16 : (s_1.Kind == (109 : Int)) = true
    ·rw [if_pos h16] at hh
     refine zn (by first | exact congrArg PV.bool h16 | rfl) ?_
     refine zy ?_; refine nmx ?_
     refine zn (by first | exact congrArg PV.bool h16 | rfl) ?_
     by_cases h17 : (JU) = true
     ·rw [if_pos h17] at hh
      obtain ⟨ao7, h18, hh⟩ := zf hh
      by_cases h19 : (ao7) = true
      ·rw [if_pos h19] at hh
       by_cases h20 : ((s_1.kF.length : Int) == (0 : Int)) = true
       ·rw [if_pos h20] at hh
        refine zb fun K kk hK => ?_
        simp only [go_sem, h17, h19, h20]
        (repeat refine sd ?_)
        refine zg (wC _ _ h18) (by (try simp only [go_sem, h17, h19, h20]) <;> exact wkl) (by rfl) (by rfl) ?_
        simp only [go_sem, h17, h19, h20]
        (repeat refine sd ?_)
        refine hK _ _ fun nx => ?_; clear hK K; try clear kk
        refine zk ?_; refine nmx ?_
        obtain hR := Option.some.inj hh
        subst hR
        exact zz
       ·rw [if_neg h20] at hh
        replace h20 := Bool.eq_false_iff.mpr h20
        refine zb fun K kk hK => ?_
        simp only [go_sem, h17, h19, h20]
        (repeat refine sd ?_)
        refine zg (wC _ _ h18) (by (try simp only [go_sem, h17, h19, h20]) <;> exact wkl) (by rfl) (by rfl) ?_
        simp only [go_sem, h17, h19, h20]
        (repeat refine sd ?_)
        refine hK _ _ fun nx => ?_; clear hK K; try clear kk
        refine zk ?_; refine nmx ?_
        obtain hR := Option.some.inj hh
        subst hR
        exact zz
      ·rw [if_neg h19] at hh
       replace h19 := Bool.eq_false_iff.mpr h19
       refine zb fun K kk hK => ?_
       simp only [go_sem, h17, h19]
       (repeat refine sd ?_)
       refine zg (wC _ _ h18) (by (try simp only [go_sem, h17, h19]) <;> exact wkl) (by rfl) (by rfl) ?_
       simp only [go_sem, h17, h19]
       (repeat refine sd ?_)
       refine hK _ _ fun nx => ?_; clear hK K; try clear kk
       refine zk ?_; refine nmx ?_
       obtain hR := Option.some.inj hh
       subst hR
       exact zz
     ·rw [if_neg h17] at hh
      replace h17 := Bool.eq_false_iff.mpr h17
      refine zb fun K kk hK => ?_
      simp only [go_sem, h17]
      (repeat refine sd ?_)
      refine hK _ _ fun nx => ?_; clear hK K; try clear kk
      refine zk ?_; refine nmx ?_
      obtain hR := Option.some.inj hh
      subst hR
      exact zz
    ·rw [if_neg h16] at hh
     replace h16 := Bool.eq_false_iff.mpr h16
     refine zi (by first | exact congrArg PV.bool h16 | rfl) ?_
     refine zu fun K kk hK => ?_
     simp only [go_sem]
     refine hK _ _ fun nx => ?_; clear hK K; try clear kk
     refine nmx ?_
     by_cases h21 : (s_1.Kind == (117 : Int)) = true
     ·rw [if_pos h21] at hh
      refine zn (by first | exact congrArg PV.bool h21 | rfl) ?_
      by_cases h22 : (JU) = true
      ·rw [if_pos h22] at hh
       obtain ⟨apm, h23, hh⟩ := zf hh
       by_cases h24 : (apm) = true
       ·rw [if_pos h24] at hh
        by_cases h25 : ((s_1.kF.length : Int) == (0 : Int)) = true
        ·rw [if_pos h25] at hh
         refine zb fun K kk hK => ?_
         simp only [go_sem, h22, h24, h25]
         (repeat refine sd ?_)
         refine zg (wC _ _ h23) (by (try simp only [go_sem, h22, h24, h25]) <;> exact wkl) (by rfl) (by rfl) ?_
         simp only [go_sem, h22, h24, h25]
         (repeat refine sd ?_)
         refine hK _ _ fun nx => ?_; clear hK K; try clear kk
         refine zk ?_; refine nmx ?_
         obtain hR := Option.some.inj hh
         subst hR
         exact zz
        ·rw [if_neg h25] at hh
         replace h25 := Bool.eq_false_iff.mpr h25
         refine zb fun K kk hK => ?_
         simp only [go_sem, h22, h24, h25]
         (repeat refine sd ?_)
         refine zg (wC _ _ h23) (by (try simp only [go_sem, h22, h24, h25]) <;> exact wkl) (by rfl) (by rfl) ?_
         simp only [go_sem, h22, h24, h25]
         (repeat refine sd ?_)
         refine hK _ _ fun nx => ?_; clear hK K; try clear kk
         refine zk ?_; refine nmx ?_
         obtain hR := Option.some.inj hh
         subst hR
         exact zz
       ·rw [if_neg h24] at hh
        replace h24 := Bool.eq_false_iff.mpr h24
        refine zb fun K kk hK => ?_
        simp only [go_sem, h22, h24]
        (repeat refine sd ?_)
        refine zg (wC _ _ h23) (by (try simp only [go_sem, h22, h24]) <;> exact wkl) (by rfl) (by rfl) ?_
        simp only [go_sem, h22, h24]
        (repeat refine sd ?_)
        refine hK _ _ fun nx => ?_; clear hK K; try clear kk
        refine zk ?_; refine nmx ?_
        obtain hR := Option.some.inj hh
        subst hR
        exact zz
      ·rw [if_neg h22] at hh
       replace h22 := Bool.eq_false_iff.mpr h22
       refine zb fun K kk hK => ?_
       simp only [go_sem, h22]
       (repeat refine sd ?_)
       refine hK _ _ fun nx => ?_; clear hK K; try clear kk
       refine zk ?_; refine nmx ?_
       obtain hR := Option.some.inj hh
       subst hR
       exact zz
     ·rw [if_neg h21] at hh
      replace h21 := Bool.eq_false_iff.mpr h21
      refine zi (by first | exact congrArg PV.bool h21 | rfl) ?_
      refine zy ?_; refine nmx ?_
      refine zb fun K kk hK => ?_
      simp only [go_sem]
      refine hK _ _ fun nx => ?_; clear hK K; try clear kk
      refine zk ?_; refine nmx ?_
      obtain hR := Option.some.inj hh
      subst hR
      exact zz
 ·intro i s h; exact h.elim
 ·intro s h; exact h.elim
theorem kZ (v_1 : Int) (V4 : qU) (R : (Int × qU)) (hh : wP v_1 V4 = some R) : BD Tryd.prog 96 [.box 1000 0 0, .box 1001 0 0] [.var 31 [.int .i64 v_1], .var 123 [.list 1 (V4.path.map (PV.int .i64)), .str V4.in_.Kind, .str V4.in_.Text, .list 1 (V4.in_.Marks.map PV.str), .list 2 (V4.in_.zh.map ze.pv), .list 5 (V4.in_.Kids.map za.pv), .int .i64 V4.from_, .int .i64 V4.to_]] (.tup []) [.var 31 [.int .i64 R.1], .var 123 [.list 1 (R.2.path.map (PV.int .i64)), .str R.2.in_.Kind, .str R.2.in_.Text, .list 1 (R.2.in_.Marks.map PV.str), .list 2 (R.2.in_.zh.map ze.pv), .list 5 (R.2.in_.Kids.map za.pv), .int .i64 R.2.from_, .int .i64 R.2.to_]] := by
 rw [wP] at hh
 refine YE rfl rfl rfl ?_
 refine zb fun K kk hK => ?_
 simp only [go_sem]
 refine hK _ _ fun nx => ?_; clear hK K; try clear kk
 by_cases h1 : (v_1 != (0 : Int)) = true
 ·rw [if_pos h1] at hh
  refine zn (by first | exact congrArg PV.bool h1 | rfl) ?_
  refine zu fun K kk hK => ?_
  simp only [go_sem]
  refine hK _ _ fun nx => ?_; clear hK K; try clear kk
  refine nmx ?_
  obtain hR := Option.some.inj hh
  subst hR
  refine YT ?_
  refine ji ?_ (by rfl) ?_
  ·simp only [go_sem, wR, xE, vg, je, Qb, List.map_cons, List.map_append, List.head?_cons, h1]
   all_goals exact wkw
  ·(try simp only [go_sem, h1]); (try simp only [List.length_append, List.map_append]); all_goals exact wkb
 ·rw [if_neg h1] at hh
  replace h1 := Bool.eq_false_iff.mpr h1
  refine zi (by first | exact congrArg PV.bool h1 | rfl) ?_
  refine zy ?_; refine nmx ?_
  obtain hR := Option.some.inj hh
  subst hR
  refine YT ?_
  refine ji ?_ (by rfl) ?_
  ·simp only [go_sem, wR, xE, vg, je, Qb, List.map_cons, List.map_append, List.head?_cons, h1]
   all_goals exact wkw
  ·(try simp only [go_sem, h1]); (try simp only [List.length_append, List.map_append]); all_goals exact wkb
theorem abj (kD : (List Int)) (kT : (List Int)) (R : Bool) (hh : slices_Equal_int kD kT = some R) : PC Tryd.prog 98 [.list 1 (kD.map (PV.int .i64)), .list 1 (kT.map (PV.int .i64))] (.bool R) := by
 rw [slices_Equal_int] at hh
 refine XW rfl ?_
 refine zb fun K kk hK => ?_
 simp only [go_sem]
 refine hK _ _ fun nx => ?_; clear hK K; try clear kk
 refine zm ?_
 refine zb fun K kk hK => ?_
 simp only [go_sem]
 refine hK _ _ fun nx => ?_; clear hK K; try clear kk
 by_cases h1 : ((kD.length : Int) != (kT.length : Int)) = true
 ·rw [if_pos h1] at hh
  refine zn (by first | exact congrArg PV.bool h1 | rfl) ?_
  refine zb fun K kk hK => ?_
  simp only [go_sem]
  refine hK _ _ fun nx => ?_; clear hK K; try clear kk
  refine zk ?_; refine nmx ?_
  obtain hR := Option.some.inj hh
  subst hR
  exact zz
 ·rw [if_neg h1] at hh
  replace h1 := Bool.eq_false_iff.mpr h1
  refine zi (by first | exact congrArg PV.bool h1 | rfl) ?_
  refine zy ?_; refine nmx ?_
  refine zm ?_
  refine zb fun K kk hK => ?_
  simp only [go_sem]
  refine hK _ _ fun nx => ?_; clear hK K; try clear kk
  obtain ⟨e0, f0, hh⟩ := zf hh
  obtain ⟨hlen0, f0⟩ := qf f0
  refine qp (kC (fun s => .inr () = e0 ∧ ∃ (WU : Int) (KL : Bool) (nx : Nat), s = ⟨[(0, .list 1 (kD.map (PV.int .i64))), (1, .list 1 (kT.map (PV.int .i64))), (12, .int .i64 (kD.length : Int)), (13, .int .i64 WU), (14, .bool KL)], [], nx⟩))
   (fun i s => False)
   (fun s => ∃ kG, .inl kG = e0 ∧ zS Tryd.prog [.tmp 4] (.bool kG) [] .ret s) ?_ ?_ ?_ ?_
  ·refine zA ?_
   refine qd fun I hI => ?_
   have key : ∀ (suf pre : List Int) (v_5 : Int), kD = pre ++ suf → v_5 = (pre.length : Int) → wW kT suf v_5 = some e0 → ∀ (nx : Nat), I ⟨[(0, .list 1 (kD.map (PV.int .i64))), (1, .list 1 (kT.map (PV.int .i64))), (12, .int .i64 (kD.length : Int)), (13, .int .i64 v_5)], [], nx⟩ := by
    intro suf
    induction suf with
    | nil =>
     intro pre v_5 hsplit hidx hh nx
     rw [wW] at hh
     refine hI _ ?_
     have h10 := walk_nil hsplit hidx
     refine zb fun K kk hK => ?_
     simp only [go_sem]
     refine hK _ _ fun nx => ?_; clear hK K; try clear kk
     refine zm ?_
     refine zi (by first | exact congrArg PV.bool h10 | rfl) ?_
     refine zU ?_; refine nmx ?_
     refine wX ?_
     refine zG ?_
     refine ⟨(Option.some.inj hh), ?_⟩
     first | exact ⟨_, _, _, rfl⟩ | (simp only [pvE, lsE, zq]; exact ⟨_, _, _, rfl⟩) | (simp only [pvE, lsE, zq, h1, h10]; exact ⟨_, _, _, rfl⟩)
    | cons y_8 suf ih =>
     intro pre v_5 hsplit hidx hh nx
     rw [wW] at hh
     refine hI _ ?_
     obtain ⟨hl0a, hl0b, hl0d, hl0w, h10⟩ := qM (f := (PV.int .i64)) hsplit hidx hlen0
     refine zb fun K kk hK => ?_
     simp only [go_sem]
     refine hK _ _ fun nx => ?_; clear hK K; try clear kk
     refine zm ?_
     refine zn (by first | exact congrArg PV.bool h10 | rfl) ?_
     refine zy ?_; refine nmx ?_
     refine zm ?_
     refine zA ?_
     refine zb fun K kk hK => ?_
     simp only [go_sem, hl0a, hl0b, hl0d, hl0w]
     refine hK _ _ fun nx => ?_; clear hK K; try clear kk
     obtain ⟨x_9, h11, hh⟩ := zf hh
     obtain ⟨h11a, h11b, h11c⟩ := rd_some h11
     have h11d := kE (f := (PV.int .i64)) h11c
     have h11f := wo (f := (PV.int .i64)) h11c
     try simp only [Int.toNat_natCast, Int.reduceToNat] at h11d h11f
     refine zb fun K kk hK => ?_
     simp only [go_sem, h11a, h11b, h11d, h11f.1, h11f.2, hl0a, hl0b, hl0d, hl0w]
     (repeat refine sd ?_)
     refine hK _ _ fun nx => ?_; clear hK K; try clear kk
     by_cases h12 : (y_8 != x_9) = true
     ·rw [if_pos h12] at hh
      refine zn (by first | exact congrArg PV.bool h12 | rfl) ?_
      refine zb fun K kk hK => ?_
      simp only [go_sem, hl0a, hl0b, hl0d, hl0w]
      refine hK _ _ fun nx => ?_; clear hK K; try clear kk
      refine zk ?_; refine nmx ?_
      refine yN ⟨_, (Option.some.inj hh), ?_⟩
      exact zz
     ·rw [if_neg h12] at hh
      replace h12 := Bool.eq_false_iff.mpr h12
      refine zi (by first | exact congrArg PV.bool h12 | rfl) ?_
      refine zy ?_; refine nmx ?_
      refine zu fun K kk hK => ?_
      simp only [go_sem, hl0a, hl0b, hl0d, hl0w]
      refine hK _ _ fun nx => ?_; clear hK K; try clear kk
      refine nmx ?_
      have ih' := ih (pre ++ [y_8]) (v_5 + 1) (by rw [hsplit]; simp) (by simp [hidx]) hh nx
      refine zG ?_
      first | exact ih' | (simp only [pvE, lsE, zq] at ih' ⊢; exact ih') | (simp only [pvE, lsE, zq, h1, h10, h12] at ih' ⊢; exact ih')
   exact key kD [] _ rfl rfl f0 _
  ·rintro s ⟨t, hless, rfl, WU, KL, nx, rfl⟩
   try dsimp only at hh
   refine nmy ?_
   first | (refine wh hless ?_; try refine ku ?_) | refine qD hless ?_ | refine qE hless ?_
   refine zb fun K kk hK => ?_
   simp only [go_sem]
   refine hK _ _ fun nx => ?_; clear hK K; try clear kk
   refine zk ?_; refine nmx ?_
   obtain hR := Option.some.inj hh
   subst hR
   exact zz
  ·intro i s h; exact h.elim
  ·rintro s ⟨kG, rfl, hb⟩
   try dsimp only at hh
   obtain hR := Option.some.inj hh
   subst hR
   refine nmx ?_
   exact hb
theorem ahf (n_1 : za) (wE : (List Int)) (R : (Int × Int)) (hh : KP n_1 wE = some R) : PC Tryd.prog 99 [.agg [.str n_1.Kind, .str n_1.Text, .list 1 (n_1.Marks.map PV.str), .list 2 (n_1.zh.map ze.pv), .list 5 (n_1.Kids.map za.pv)], .list 1 (wE.map (PV.int .i64))] (.tup [.int .i64 R.1, .int .i64 R.2]) := by
 rw [KP] at hh
 refine adT rfl ?_
 refine zb fun K kk hK => ?_
 simp only [go_sem]
 refine hK _ _ fun nx => ?_; clear hK K; try clear kk
 refine zm ?_
 obtain ⟨⟨r_3, r_4⟩, h1, hh⟩ := zf hh
 dsimp only at hh
 refine zb fun K kk hK => ?_
 simp only [go_sem]
 refine zg (Za _ _ _ h1) (by (try simp only [go_sem]) <;> exact wkl) (by rfl) (by rfl) ?_
 simp only [go_sem]
 refine hK _ _ fun nx => ?_; clear hK K; try clear kk
 refine zb fun K kk hK => ?_
 simp only [go_sem]
 refine hK _ _ fun nx => ?_; clear hK K; try clear kk
 by_cases h2 : (r_4 != (0 : Int)) = true
 ·rw [if_pos h2] at hh
  refine zn (by first | exact congrArg PV.bool h2 | rfl) ?_
  refine zb fun K kk hK => ?_
  simp only [go_sem]
  refine hK _ _ fun nx => ?_; clear hK K; try clear kk
  refine zk ?_; refine nmx ?_
  obtain hR := Option.some.inj hh
  subst hR
  exact zz
 ·rw [if_neg h2] at hh
  replace h2 := Bool.eq_false_iff.mpr h2
  refine zi (by first | exact congrArg PV.bool h2 | rfl) ?_
  refine zy ?_; refine nmx ?_
  refine zb fun K kk hK => ?_
  simp only [go_sem]
  refine hK _ _ fun nx => ?_; clear hK K; try clear kk
  refine zm ?_
  refine zb fun K kk hK => ?_
  simp only [go_sem]
  refine hK _ _ fun nx => ?_; clear hK K; try clear kk
  obtain ⟨e0, f0, hh⟩ := zf hh
  obtain ⟨hlen0, f0⟩ := qf f0
  refine qp (kC (fun s => ∃ anu, anu = e0 ∧ ∃ (adp : Int) (asW : Bool) (asx : za) (nx : Nat) (g2 : Nat), s = ⟨[(2, .box 2 g2 0), (8, .int .i64 anu), (20, .list 1 (wE.map (PV.int .i64))), (21, .int .i64 (wE.length : Int)), (22, .int .i64 adp), (23, .bool asW)], [(2, g2, .var 28 [.str asx.Kind, .str asx.Text, .list 1 (asx.Marks.map PV.str), .list 2 (asx.zh.map ze.pv), .list 5 (asx.Kids.map za.pv)])], nx⟩))
   (fun i s => False)
   (fun s => False) ?_ ?_ ?_ ?_
  ·refine zA ?_
   refine qd fun I hI => ?_
   have key : ∀ (suf pre : List Int) (WU : Int) (agy : Int) (n_9 : za), wE = pre ++ suf → WU = (pre.length : Int) → jT suf WU agy n_9 = some e0 → ∀ (nx : Nat) (g2 : Nat), I ⟨[(2, .box 2 g2 0), (8, .int .i64 agy), (20, .list 1 (wE.map (PV.int .i64))), (21, .int .i64 (wE.length : Int)), (22, .int .i64 WU)], [(2, g2, .var 28 [.str n_9.Kind, .str n_9.Text, .list 1 (n_9.Marks.map PV.str), .list 2 (n_9.zh.map ze.pv), .list 5 (n_9.Kids.map za.pv)])], nx⟩ := by
    intro suf
    induction suf with
    | nil =>
     intro pre WU agy n_9 hsplit hidx hh nx g2
     rw [jT] at hh
     refine hI _ ?_
     have h13 := walk_nil hsplit hidx
     refine zb fun K kk hK => ?_
     simp only [go_sem]
     refine hK _ _ fun nx => ?_; clear hK K; try clear kk
     refine zm ?_
     refine zi (by first | exact congrArg PV.bool h13 | rfl) ?_
     refine zU ?_; refine nmx ?_
     refine wX ?_
     refine zG ?_
     refine ⟨_, (Option.some.inj hh), ?_⟩
     first | exact ⟨_, _, _, _, _, rfl⟩ | (simp only [pvE, lsE, zq]; exact ⟨_, _, _, _, _, rfl⟩) | (simp only [pvE, lsE, zq, h13, h2]; exact ⟨_, _, _, _, _, rfl⟩)
    | cons awh suf ih =>
     intro pre WU agy n_9 hsplit hidx hh nx g2
     rw [jT] at hh
     refine hI _ ?_
     obtain ⟨hl0a, hl0b, hl0d, hl0w, h13⟩ := qM (f := (PV.int .i64)) hsplit hidx hlen0
     refine zb fun K kk hK => ?_
     simp only [go_sem]
     refine hK _ _ fun nx => ?_; clear hK K; try clear kk
     refine zm ?_
     refine zn (by first | exact congrArg PV.bool h13 | rfl) ?_
     refine zy ?_; refine nmx ?_
     refine zm ?_
     refine zA ?_
     refine zb fun K kk hK => ?_
     simp only [go_sem, hl0a, hl0b, hl0d, hl0w]
     refine hK _ _ fun nx => ?_; clear hK K; try clear kk
     obtain ⟨ayR, h14, hh⟩ := zf hh
     obtain ⟨h14a, h14c⟩ := yP h14
     have h14g := Jn h14a
     have h14d := JD (f := za.pv) h14c
     try simp only [Int.toNat_natCast, Int.reduceToNat, List.map_cons, List.map_nil, pvE] at h14d
     obtain ⟨aoi, h15, hh⟩ := zf hh
     refine zb fun K kk hK => ?_
     simp only [go_sem, h14a.1, h14a.2.1, h14a.2.2, h14d, h14g, hl0a, hl0b, hl0d, hl0w]
     (repeat refine sd ?_)
     refine zg (jK _ _ h15) (by (try simp only [go_sem, h14a.1, h14a.2.1, h14a.2.2, h14d, h14g, hl0a, hl0b, hl0d, hl0w]) <;> exact wkl) (by rfl) (by rfl) ?_
     simp only [go_sem, h14a.1, h14a.2.1, h14a.2.2, h14d, h14g, hl0a, hl0b, hl0d, hl0w]
     (repeat refine sd ?_)
     refine hK _ _ fun nx => ?_; clear hK K; try clear kk
     obtain ⟨ayr, h16, hh⟩ := zf hh
     obtain ⟨h16a, h16b, h16c⟩ := rd_some h16
     have h16d := kE (f := za.pv) h16c
     have h16f := wo (f := za.pv) h16c
     try simp only [Int.toNat_natCast, Int.reduceToNat] at h16d h16f
     refine zu fun K kk hK => ?_
     simp only [go_sem, h16a, h16b, h16d, h16f.1, h16f.2, hl0a, hl0b, hl0d, hl0w]
     (repeat refine sd ?_)
     refine hK _ _ fun nx => ?_; clear hK K; try clear kk
     refine nmx ?_
     refine zu fun K kk hK => ?_
     simp only [go_sem, hl0a, hl0b, hl0d, hl0w]
     refine hK _ _ fun nx => ?_; clear hK K; try clear kk
     refine nmx ?_
     have ih' := ih (pre ++ [awh]) (WU + 1) _ _ (by rw [hsplit]; simp) (by simp [hidx]) hh nx
     refine zG ?_
     first | exact ih' _ | (simp only [pvE, lsE, zq] at ih' ⊢; exact ih' _) | (simp only [pvE, lsE, zq, h13, h2] at ih' ⊢; exact ih' _)
   exact key wE [] _ _ _ rfl rfl f0 _ _
  ·rintro s ⟨t, hless, anu, rfl, adp, asW, asx, nx, g2, rfl⟩
   try dsimp only at hh
   refine nmy ?_
   first | (refine wh hless ?_; try refine ku ?_) | refine qD hless ?_ | refine qE hless ?_
   refine zb fun K kk hK => ?_
   simp only [go_sem]
   refine hK _ _ fun nx => ?_; clear hK K; try clear kk
   refine zk ?_; refine nmx ?_
   obtain hR := Option.some.inj hh
   subst hR
   exact zz
  ·intro i s h; exact h.elim
  ·intro s h; exact h.elim
theorem aaS (n_1 : za) (yK : Int) (YB : Int) (R : (qU × Int)) (hh : yl n_1 yK YB = some R) : PC Tryd.prog 72 [.agg [.str n_1.Kind, .str n_1.Text, .list 1 (n_1.Marks.map PV.str), .list 2 (n_1.zh.map ze.pv), .list 5 (n_1.Kids.map za.pv)], .int .i64 yK, .int .i64 YB] (.tup [.agg [.list 1 (R.1.path.map (PV.int .i64)), .str R.1.in_.Kind, .str R.1.in_.Text, .list 1 (R.1.in_.Marks.map PV.str), .list 2 (R.1.in_.zh.map ze.pv), .list 5 (R.1.in_.Kids.map za.pv), .int .i64 R.1.from_, .int .i64 R.1.to_], .int .i64 R.2]) := by
 rw [yl] at hh
 refine adV rfl ?_
 refine zu fun K kk hK => ?_
 simp only [go_sem]
 refine hK _ _ fun nx => ?_; clear hK K; try clear kk
 refine nmx ?_
 refine axi 7 6 _ _ _ _ _ _ [1, 2, 3] [3] ⟨rfl, rfl, rfl, rfl, by decide, by decide, by decide, rfl, rfl, rfl, rfl⟩ rfl ?_
 refine axo (t := ⟨[(7, .box 1000 0 0), (6, .box 1001 0 0), (1, .int .i64 yK), (2, .int .i64 YB), (3, .box 3 _ 0)], [(1000, 0, .var 31 [.int .i64 (0 : Int)]), (1001, 0, .var 123 [.list 1 ([].map (PV.int .i64)), .str ([] : Str), .str ([] : Str), .list 1 ([].map PV.str), .list 2 ([].map ze.pv), .list 5 ([].map za.pv), .int .i64 (0 : Int), .int .i64 (0 : Int)]), (3, _, .var 28 [.str n_1.Kind, .str n_1.Text, .list 1 (n_1.Marks.map PV.str), .list 2 (n_1.zh.map ze.pv), .list 5 (n_1.Kids.map za.pv)])], nx⟩) ?_ (by rfl)
 refine zm ?_
 by_cases h1 : (n_1.Kind == ([116, 101, 120, 116] : Str)) = true
 ·rw [if_pos h1] at hh
  refine zb fun K kk hK => ?_
  simp only [go_sem, h1]
  (repeat refine sd ?_)
  refine hK _ _ fun nx => ?_; clear hK K; try clear kk
  refine zn rfl ?_
  refine zb fun K kk hK => ?_
  simp only [go_sem]
  refine hK _ _ fun nx => ?_; clear hK K; try clear kk
  refine zk ?_; refine nmx ?_
  obtain ⟨⟨v_4, auB⟩, h2, hh⟩ := zf hh
  dsimp only at hh
  obtain hR := Option.some.inj hh
  subst hR
  refine WQ (kZ _ _ _ h2) (by (try simp only [go_sem, h1]) <;> exact wkb) (by rfl) ?_ (by rfl)
  simp only [St.Jb, dKs, go_sem, h1, wR, xE, vg, je, Qb, List.map_cons, List.map_append, List.head?_cons]
  all_goals exact wkw
 ·rw [if_neg h1] at hh
  replace h1 := Bool.eq_false_iff.mpr h1
  obtain ⟨amP, h3, hh⟩ := zf hh
  refine zb fun K kk hK => ?_
  simp only [go_sem, h1]
  (repeat refine sd ?_)
  refine zg (xL _ _ h3) (by (try simp only [go_sem, h1]) <;> exact wkl) (by rfl) (by rfl) ?_
  simp only [go_sem, h1]
  (repeat refine sd ?_)
  refine hK _ _ fun nx => ?_; clear hK K; try clear kk
  by_cases h4 : (!amP) = true
  ·rw [if_pos h4] at hh
   refine zn (by first | exact congrArg PV.bool h4 | rfl) ?_
   refine zb fun K kk hK => ?_
   simp only [go_sem]
   refine hK _ _ fun nx => ?_; clear hK K; try clear kk
   refine zk ?_; refine nmx ?_
   obtain ⟨⟨v_7, avb⟩, h5, hh⟩ := zf hh
   dsimp only at hh
   obtain hR := Option.some.inj hh
   subst hR
   refine WQ (kZ _ _ _ h5) (by (try simp only [go_sem, h1, h4]) <;> exact wkb) (by rfl) ?_ (by rfl)
   simp only [St.Jb, dKs, go_sem, h1, h4, wR, xE, vg, je, Qb, List.map_cons, List.map_append, List.head?_cons]
   all_goals exact wkw
  ·rw [if_neg h4] at hh
   replace h4 := Bool.eq_false_iff.mpr h4
   refine zi (by first | exact congrArg PV.bool h4 | rfl) ?_
   refine zy ?_; refine nmx ?_
   obtain ⟨⟨r_9, VZ⟩, h6, hh⟩ := zf hh
   dsimp only at hh
   refine zb fun K kk hK => ?_
   simp only [go_sem]
   refine zg (Kb _ _ _ h6) (by (try simp only [go_sem]) <;> exact wkl) (by rfl) (by rfl) ?_
   simp only [go_sem]
   refine hK _ _ fun nx => ?_; clear hK K; try clear kk
   refine zm ?_
   refine zb fun K kk hK => ?_
   simp only [go_sem]
   refine hK _ _ fun nx => ?_; clear hK K; try clear kk
   by_cases h7 : (VZ != (0 : Int)) = true
   ·rw [if_pos h7] at hh
    refine zn (by first | exact congrArg PV.bool h7 | rfl) ?_
    refine zb fun K kk hK => ?_
    simp only [go_sem]
    refine hK _ _ fun nx => ?_; clear hK K; try clear kk
    refine zk ?_; refine nmx ?_
    obtain ⟨⟨WU, aq7⟩, h8, hh⟩ := zf hh
    dsimp only at hh
    obtain hR := Option.some.inj hh
    subst hR
    refine WQ (kZ _ _ _ h8) (by (try simp only [go_sem, h1, h4, h7]) <;> exact wkb) (by rfl) ?_ (by rfl)
    simp only [St.Jb, dKs, go_sem, h1, h4, h7, wR, xE, vg, je, Qb, List.map_cons, List.map_append, List.head?_cons]
    all_goals exact wkw
   ·rw [if_neg h7] at hh
    replace h7 := Bool.eq_false_iff.mpr h7
    refine zi (by first | exact congrArg PV.bool h7 | rfl) ?_
    refine zy ?_; refine nmx ?_
    obtain ⟨⟨YM, ale⟩, h9, hh⟩ := zf hh
    dsimp only at hh
    refine zb fun K kk hK => ?_
    simp only [go_sem]
    refine zg (Kb _ _ _ h9) (by (try simp only [go_sem]) <;> exact wkl) (by rfl) (by rfl) ?_
    simp only [go_sem]
    refine hK _ _ fun nx => ?_; clear hK K; try clear kk
    refine zm ?_
    refine zA ?_
    refine zb fun K kk hK => ?_
    simp only [go_sem]
    refine hK _ _ fun nx => ?_; clear hK K; try clear kk
    by_cases h10 : (ale != (0 : Int)) = true
    ·rw [if_pos h10] at hh
     refine zn (by first | exact congrArg PV.bool h10 | rfl) ?_
     refine zb fun K kk hK => ?_
     simp only [go_sem]
     refine hK _ _ fun nx => ?_; clear hK K; try clear kk
     refine zk ?_; refine nmx ?_
     obtain ⟨⟨Yc, aqk⟩, h11, hh⟩ := zf hh
     dsimp only at hh
     obtain hR := Option.some.inj hh
     subst hR
     refine WQ (kZ _ _ _ h11) (by (try simp only [go_sem, h1, h10, h4, h7]) <;> exact wkb) (by rfl) ?_ (by rfl)
     simp only [St.Jb, dKs, go_sem, h1, h10, h4, h7, wR, xE, vg, je, Qb, List.map_cons, List.map_append, List.head?_cons]
     all_goals exact wkw
    ·rw [if_neg h10] at hh
     replace h10 := Bool.eq_false_iff.mpr h10
     refine zi (by first | exact congrArg PV.bool h10 | rfl) ?_
     refine zb fun K kk hK => ?_
     simp only [go_sem]
     refine hK _ _ fun nx => ?_; clear hK K; try clear kk
     by_cases h12 : (decide (YB < yK)) = true
     ·rw [if_pos h12] at hh
      refine zn (by first | exact congrArg PV.bool h12 | rfl) ?_
      refine zb fun K kk hK => ?_
      simp only [go_sem]
      refine hK _ _ fun nx => ?_; clear hK K; try clear kk
      refine zk ?_; refine nmx ?_
      obtain ⟨⟨am5, aqI⟩, h13, hh⟩ := zf hh
      dsimp only at hh
      obtain hR := Option.some.inj hh
      subst hR
      refine WQ (kZ _ _ _ h13) (by (try simp only [go_sem, h1, h10, h12, h4, h7]) <;> exact wkb) (by rfl) ?_ (by rfl)
      simp only [St.Jb, dKs, go_sem, h1, h10, h12, h4, h7, wR, xE, vg, je, Qb, List.map_cons, List.map_append, List.head?_cons]
      all_goals exact wkw
     ·rw [if_neg h12] at hh
      replace h12 := Bool.eq_false_iff.mpr h12
      refine zi (by first | exact congrArg PV.bool h12 | rfl) ?_
      obtain ⟨ap4, h14, hh⟩ := zf hh
      refine zb fun K kk hK => ?_
      simp only [go_sem]
      refine zg (abj _ _ _ h14) (by (try simp only [go_sem]) <;> exact wkl) (by rfl) (by rfl) ?_
      simp only [go_sem]
      refine hK _ _ fun nx => ?_; clear hK K; try clear kk
      by_cases h15 : (!ap4) = true
      ·rw [if_pos h15] at hh
       refine zn (by first | exact congrArg PV.bool h15 | rfl) ?_
       refine zb fun K kk hK => ?_
       simp only [go_sem]
       refine hK _ _ fun nx => ?_; clear hK K; try clear kk
       refine zk ?_; refine nmx ?_
       obtain ⟨⟨Je, aq2⟩, h16, hh⟩ := zf hh
       dsimp only at hh
       obtain hR := Option.some.inj hh
       subst hR
       refine WQ (kZ _ _ _ h16) (by (try simp only [go_sem, h1, h10, h12, h15, h4, h7]) <;> exact wkb) (by rfl) ?_ (by rfl)
       simp only [St.Jb, dKs, go_sem, h1, h10, h12, h15, h4, h7, wR, xE, vg, je, Qb, List.map_cons, List.map_append, List.head?_cons]
       all_goals exact wkw
      ·rw [if_neg h15] at hh
       replace h15 := Bool.eq_false_iff.mpr h15
       refine zi (by first | exact congrArg PV.bool h15 | rfl) ?_
       refine zy ?_; refine nmx ?_
       obtain ⟨⟨axE, azw⟩, h17, hh⟩ := zf hh
       dsimp only at hh
       refine zb fun K kk hK => ?_
       simp only [go_sem]
       refine zg (ahf _ _ _ h17) (by (try simp only [go_sem]) <;> exact wkl) (by rfl) (by rfl) ?_
       simp only [go_sem]
       refine hK _ _ fun nx => ?_; clear hK K; try clear kk
       obtain ⟨⟨ayg, azc⟩, h18, hh⟩ := zf hh
       dsimp only at hh
       refine zb fun K kk hK => ?_
       simp only [go_sem]
       refine zg (Za _ _ _ h18) (by (try simp only [go_sem]) <;> exact wkl) (by rfl) (by rfl) ?_
       simp only [go_sem]
       refine hK _ _ fun nx => ?_; clear hK K; try clear kk
       refine zb fun K kk hK => ?_
       simp only [go_sem]
       refine hK _ _ fun nx => ?_; clear hK K; try clear kk
       refine zk ?_; refine nmx ?_
       obtain ⟨⟨aan, aqs⟩, h19, hh⟩ := zf hh
       dsimp only at hh
       obtain hR := Option.some.inj hh
       subst hR
       refine WQ (kZ _ _ _ h19) (by (try simp only [go_sem, h1, h10, h12, h15, h4, h7]) <;> exact wkb) (by rfl) ?_ (by rfl)
       simp only [St.Jb, dKs, go_sem, h1, h10, h12, h15, h4, h7, wR, xE, vg, je, Qb, List.map_cons, List.map_append, List.head?_cons]
       all_goals exact wkw
end Go.Proofs.YtclohbgnaopjfaaDoor
