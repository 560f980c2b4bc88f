/- Texts of the proof of diffMakesCard -/
import Derived.Test.YtclohbgnaopjfaaDoorAgC
import Derived.Test.YtclohbgnaopjfaaDoorAgF
import Derived.Test.YtclohbgnaopjfaaDoorAgK0
import Derived.Test.YtclohbgnaopjfaaDoorAgK1
import Derived.Test.YtclohbgnaopjfaaDoorAgK6
namespace Go.Proofs.YtclohbgnaopjfaaDoor
set_option linter.unusedSimpArgs false
set_option linter.unusedVariables false
open Go
set_option maxRecDepth 100000
theorem aiX (s_1 : zt) (R : Bool) (hh : yu s_1 = some R) : PC Tryd.prog 48 [.agg [.int .u8 s_1.Kind, .int .i64 s_1.From, .int .i64 s_1.To, .list 5 (s_1.wO.map za.pv), .str s_1.Name, .str s_1.Value]] (.bool R) := by
 rw [yu] at hh
 refine aeT rfl ?_
 refine zb fun K kk hK => ?_
 simp only [go_sem]
 refine hK _ _ fun nx => ?_; clear hK K; try clear kk
 refine zm ?_
 obtain ⟨e0, f0, hh⟩ := zf hh
 refine ZX (fun s => ∃ J5, J5 = e0 ∧ ∃ (nx : Nat) (g1 : Nat), s = ⟨[(1, .box 1 g1 0), (3, .bool J5)], [(1, g1, .var 39 [.int .u8 s_1.Kind, .int .i64 s_1.From, .int .i64 s_1.To, .list 5 (s_1.wO.map za.pv), .str s_1.Name, .str s_1.Value])], nx⟩)
  (fun i s => False)
  (fun s => False) ?_ ?_ ?_ ?_
 ·have hh := f0
  by_cases h1 : (decide (s_1.From ≥ (0 : Int))) = true
  ·rw [if_pos h1] at hh
   by_cases h2 : (decide (s_1.From ≤ s_1.To)) = true
   ·rw [if_pos h2] at hh
    refine zq fun K kk hK => ?_
    simp only [go_sem, h1, of_decide_eq_true h1, h2, of_decide_eq_true h2]
    (repeat refine sd ?_)
    refine hK _ _ fun nx => ?_; clear hK K; try clear kk
    refine nmx ?_
    refine wJ ?_
    refine zG ?_
    refine ⟨_, (Option.some.inj hh), ?_⟩
    first | exact ⟨_, _, rfl⟩ | (simp only [pvE, lsE, zo]; exact ⟨_, _, rfl⟩) | (simp only [pvE, lsE, zo, h1, h2]; exact ⟨_, _, rfl⟩)
   ·rw [if_neg h2] at hh
    replace h2 := Bool.eq_false_iff.mpr h2
    refine zq fun K kk hK => ?_
    simp only [go_sem, h1, of_decide_eq_true h1, h2, of_decide_eq_false h2]
    (repeat refine sd ?_)
    refine hK _ _ fun nx => ?_; clear hK K; try clear kk
    refine nmx ?_
    refine wJ ?_
    refine zG ?_
    refine ⟨_, (Option.some.inj hh), ?_⟩
    first | exact ⟨_, _, rfl⟩ | (simp only [pvE, lsE, zo]; exact ⟨_, _, rfl⟩) | (simp only [pvE, lsE, zo, h1, h2]; exact ⟨_, _, rfl⟩)
  ·rw [if_neg h1] at hh
   replace h1 := Bool.eq_false_iff.mpr h1
   refine zq fun K kk hK => ?_
   simp only [go_sem, h1, of_decide_eq_false h1]
   (repeat refine sd ?_)
   refine hK _ _ fun nx => ?_; clear hK K; try clear kk
   refine nmx ?_
   refine wJ ?_
   refine zG ?_
   refine ⟨_, (Option.some.inj hh), ?_⟩
   first | exact ⟨_, _, rfl⟩ | (simp only [pvE, lsE, zo]; exact ⟨_, _, rfl⟩) | (simp only [pvE, lsE, zo, h1]; exact ⟨_, _, rfl⟩)
 ·rintro s ⟨J5, rfl, nx, g1, rfl⟩
  try dsimp only at hh
  refine zm ?_
  refine zb fun K kk hK => ?_
  simp only [go_sem]
  refine hK _ _ fun nx => ?_; clear hK K; try clear kk
  refine zC ?_
  refine zb fun K kk hK => ?_
  simp only [go_sem]
  refine hK _ _ fun nx => ?_; clear hK K; try clear kk
  by_cases h3 : (s_1.Kind == (114 : Int)) = true
  ·rw [if_pos h3] at hh
   refine zn (by first | exact congrArg PV.bool h3 | rfl) ?_
   obtain ⟨akQ, h4, hh⟩ := zf hh
   refine zb fun K kk hK => ?_
   simp only [go_sem]
   refine zg (Kk _ _ h4) (by (try simp only [go_sem]) <;> exact wkl) (by rfl) (by rfl) ?_
   simp only [go_sem]
   refine hK _ _ fun nx => ?_; clear hK K; try clear kk
   by_cases h5 : (J5) = true
   ·rw [if_pos h5] at hh
    by_cases h6 : (akQ != (2 : Int)) = true
    ·rw [if_pos h6] at hh
     obtain ⟨h7, hh⟩ := qo hh
     refine zb fun K kk hK => ?_
     simp only [go_sem, h5, h6, h7]
     (repeat refine sd ?_)
     refine hK _ _ fun nx => ?_; clear hK K; try clear kk
     refine zk ?_; refine nmx ?_
     obtain hR := Option.some.inj hh
     subst hR
     exact zz
    ·rw [if_neg h6] at hh
     replace h6 := Bool.eq_false_iff.mpr h6
     refine zb fun K kk hK => ?_
     simp only [go_sem, h5, h6]
     (repeat refine sd ?_)
     refine hK _ _ fun nx => ?_; clear hK K; try clear kk
     refine zk ?_; refine nmx ?_
     obtain hR := Option.some.inj hh
     subst hR
     exact zz
   ·rw [if_neg h5] at hh
    replace h5 := Bool.eq_false_iff.mpr h5
    refine zb fun K kk hK => ?_
    simp only [go_sem, h5]
    (repeat refine sd ?_)
    refine hK _ _ fun nx => ?_; clear hK K; try clear kk
    refine zk ?_; refine nmx ?_
    obtain hR := Option.some.inj hh
    subst hR
    exact zz
  ·rw [if_neg h3] at hh
   replace h3 := Bool.eq_false_iff.mpr h3
   refine zi (by first | exact congrArg PV.bool h3 | rfl) ?_
   refine zb fun K kk hK => ?_
   simp only [go_sem]
   refine hK _ _ fun nx => ?_; clear hK K; try clear kk
   by_cases h8 : (s_1.Kind == (97 : Int)) = true
   ·rw [if_pos h8] at hh
    refine zn (by first | exact congrArg PV.bool h8 | rfl) ?_
    by_cases h9 : (decide (s_1.From ≥ (-1 : Int))) = true
    ·rw [if_pos h9] at hh
     by_cases h10 : (decide (s_1.From ≤ (1048576 : Int))) = true
     ·rw [if_pos h10] at hh
      by_cases h11 : (s_1.To == (0 : Int)) = true
      ·rw [if_pos h11] at hh
       obtain ⟨apA, h12, hh⟩ := zf hh
       by_cases h13 : (apA) = true
       ·rw [if_pos h13] at hh
        obtain ⟨al9, h14, hh⟩ := zf hh
        by_cases h15 : (al9) = true
        ·rw [if_pos h15] at hh
         refine zb fun K kk hK => ?_
         simp only [go_sem, h9, of_decide_eq_true h9, h10, of_decide_eq_true h10, h11, h13, h15]
         (repeat refine sd ?_)
         refine zg (wC _ _ h12) (by (try simp only [go_sem, h9, of_decide_eq_true h9, h10, of_decide_eq_true h10, h11, h13, h15]) <;> exact wkl) (by rfl) (by rfl) ?_
         simp only [go_sem, h9, of_decide_eq_true h9, h10, of_decide_eq_true h10, h11, h13, h15]
         (repeat refine sd ?_)
         refine zg (J3 _ _ h14) (by (try simp only [go_sem, h9, of_decide_eq_true h9, h10, of_decide_eq_true h10, h11, h13, h15]) <;> exact wkl) (by rfl) (by rfl) ?_
         simp only [go_sem, h9, of_decide_eq_true h9, h10, of_decide_eq_true h10, h11, h13, h15]
         (repeat refine sd ?_)
         refine hK _ _ fun nx => ?_; clear hK K; try clear kk
         refine zk ?_; refine nmx ?_
         obtain hR := Option.some.inj hh
         subst hR
         exact zz
        ·rw [if_neg h15] at hh
         replace h15 := Bool.eq_false_iff.mpr h15
         refine zb fun K kk hK => ?_
         simp only [go_sem, h9, of_decide_eq_true h9, h10, of_decide_eq_true h10, h11, h13, h15]
         (repeat refine sd ?_)
         refine zg (wC _ _ h12) (by (try simp only [go_sem, h9, of_decide_eq_true h9, h10, of_decide_eq_true h10, h11, h13, h15]) <;> exact wkl) (by rfl) (by rfl) ?_
         simp only [go_sem, h9, of_decide_eq_true h9, h10, of_decide_eq_true h10, h11, h13, h15]
         (repeat refine sd ?_)
         refine zg (J3 _ _ h14) (by (try simp only [go_sem, h9, of_decide_eq_true h9, h10, of_decide_eq_true h10, h11, h13, h15]) <;> exact wkl) (by rfl) (by rfl) ?_
         simp only [go_sem, h9, of_decide_eq_true h9, h10, of_decide_eq_true h10, h11, h13, h15]
         (repeat refine sd ?_)
         refine hK _ _ fun nx => ?_; clear hK K; try clear kk
         refine zk ?_; refine nmx ?_
         obtain hR := Option.some.inj hh
         subst hR
         exact zz
       ·rw [if_neg h13] at hh
        replace h13 := Bool.eq_false_iff.mpr h13
        refine zb fun K kk hK => ?_
        simp only [go_sem, h9, of_decide_eq_true h9, h10, of_decide_eq_true h10, h11, h13]
        (repeat refine sd ?_)
        refine zg (wC _ _ h12) (by (try simp only [go_sem, h9, of_decide_eq_true h9, h10, of_decide_eq_true h10, h11, h13]) <;> exact wkl) (by rfl) (by rfl) ?_
        simp only [go_sem, h9, of_decide_eq_true h9, h10, of_decide_eq_true h10, h11, h13]
        (repeat refine sd ?_)
        refine hK _ _ fun nx => ?_; clear hK K; try clear kk
        refine zk ?_; refine nmx ?_
        obtain hR := Option.some.inj hh
        subst hR
        exact zz
      ·rw [if_neg h11] at hh
       replace h11 := Bool.eq_false_iff.mpr h11
       refine zb fun K kk hK => ?_
       simp only [go_sem, h9, of_decide_eq_true h9, h10, of_decide_eq_true h10, h11]
       (repeat refine sd ?_)
       refine hK _ _ fun nx => ?_; clear hK K; try clear kk
       refine zk ?_; refine nmx ?_
       obtain hR := Option.some.inj hh
       subst hR
       exact zz
     ·rw [if_neg h10] at hh
      replace h10 := Bool.eq_false_iff.mpr h10
      refine zb fun K kk hK => ?_
      simp only [go_sem, h9, of_decide_eq_true h9, h10, of_decide_eq_false h10]
      (repeat refine sd ?_)
      refine hK _ _ fun nx => ?_; clear hK K; try clear kk
      refine zk ?_; refine nmx ?_
      obtain hR := Option.some.inj hh
      subst hR
      exact zz
    ·rw [if_neg h9] at hh
     replace h9 := Bool.eq_false_iff.mpr h9
     refine zb fun K kk hK => ?_
     simp only [go_sem, h9, of_decide_eq_false h9]
     (repeat refine sd ?_)
     refine hK _ _ fun nx => ?_; clear hK K; try clear kk
     refine zk ?_; refine nmx ?_
     obtain hR := Option.some.inj hh
     subst hR
     exact zz
   ·rw [if_neg h8] at hh
    replace h8 := Bool.eq_false_iff.mpr h8
    refine zi (by first | exact congrArg PV.bool h8 | rfl) ?_
    refine zm ?_
    refine zb fun K kk hK => ?_
    simp only [go_sem]
    refine hK _ _ fun nx => ?_; clear hK K; try clear kk
    by_cases h16 : (s_1.Kind == (109 : Int)) = true
    ·rw [if_pos h16] at hh
     refine zn (by first | exact congrArg PV.bool h16 | rfl) ?_
     refine zy ?_; refine nmx ?_
     refine zn (by first | exact congrArg PV.bool h16 | rfl) ?_
     by_cases h17 : (J5) = true
     ·rw [if_pos h17] at hh
      obtain ⟨aop, h18, hh⟩ := zf hh
      by_cases h19 : (aop) = true
      ·rw [if_pos h19] at hh
       by_cases h20 : ((s_1.wO.length : Int) == (0 : Int)) = true
       ·rw [if_pos h20] at hh
        refine zb fun K kk hK => ?_
        simp only [go_sem, h17, h19, h20]
        (repeat refine sd ?_)
        refine zg (wC _ _ h18) (by (try simp only [go_sem, h17, h19, h20]) <;> exact wkl) (by rfl) (by rfl) ?_
        simp only [go_sem, h17, h19, h20]
        (repeat refine sd ?_)
        refine hK _ _ fun nx => ?_; clear hK K; try clear kk
        refine zk ?_; refine nmx ?_
        obtain hR := Option.some.inj hh
        subst hR
        exact zz
       ·rw [if_neg h20] at hh
        replace h20 := Bool.eq_false_iff.mpr h20
        refine zb fun K kk hK => ?_
        simp only [go_sem, h17, h19, h20]
        (repeat refine sd ?_)
        refine zg (wC _ _ h18) (by (try simp only [go_sem, h17, h19, h20]) <;> exact wkl) (by rfl) (by rfl) ?_
        simp only [go_sem, h17, h19, h20]
        (repeat refine sd ?_)
        refine hK _ _ fun nx => ?_; clear hK K; try clear kk
        refine zk ?_; refine nmx ?_
        obtain hR := Option.some.inj hh
        subst hR
        exact zz
      ·rw [if_neg h19] at hh
       replace h19 := Bool.eq_false_iff.mpr h19
       refine zb fun K kk hK => ?_
       simp only [go_sem, h17, h19]
       (repeat refine sd ?_)
       refine zg (wC _ _ h18) (by (try simp only [go_sem, h17, h19]) <;> exact wkl) (by rfl) (by rfl) ?_
       simp only [go_sem, h17, h19]
       (repeat refine sd ?_)
       refine hK _ _ fun nx => ?_; clear hK K; try clear kk
       refine zk ?_; refine nmx ?_
       obtain hR := Option.some.inj hh
       subst hR
       exact zz
     ·rw [if_neg h17] at hh
      replace h17 := Bool.eq_false_iff.mpr h17
      refine zb fun K kk hK => ?_
      simp only [go_sem, h17]
      (repeat refine sd ?_)
      refine hK _ _ fun nx => ?_; clear hK K; try clear kk
      refine zk ?_; refine nmx ?_
      obtain hR := Option.some.inj hh
      subst hR
      exact zz
    ·rw [if_neg h16] at hh
     replace h16 := Bool.eq_false_iff.mpr h16
     refine zi (by first | exact congrArg PV.bool h16 | rfl) ?_
     refine zq fun K kk hK => ?_
     simp only [go_sem]
     refine hK _ _ fun nx => ?_; clear hK K; try clear kk
     refine nmx ?_
     by_cases h21 : (s_1.Kind == (117 : Int)) = true
     ·rw [if_pos h21] at hh
      refine zn (by first | exact congrArg PV.bool h21 | rfl) ?_
      by_cases h22 : (J5) = true
      ·rw [if_pos h22] at hh
       obtain ⟨apm, h23, hh⟩ := zf hh
       by_cases h24 : (apm) = true
       ·rw [if_pos h24] at hh
        by_cases h25 : ((s_1.wO.length : Int) == (0 : Int)) = true
        ·rw [if_pos h25] at hh
         refine zb fun K kk hK => ?_
         simp only [go_sem, h22, h24, h25]
         (repeat refine sd ?_)
         refine zg (wC _ _ h23) (by (try simp only [go_sem, h22, h24, h25]) <;> exact wkl) (by rfl) (by rfl) ?_
         simp only [go_sem, h22, h24, h25]
         (repeat refine sd ?_)
         refine hK _ _ fun nx => ?_; clear hK K; try clear kk
         refine zk ?_; refine nmx ?_
         obtain hR := Option.some.inj hh
         subst hR
         exact zz
        ·rw [if_neg h25] at hh
         replace h25 := Bool.eq_false_iff.mpr h25
         refine zb fun K kk hK => ?_
         simp only [go_sem, h22, h24, h25]
         (repeat refine sd ?_)
         refine zg (wC _ _ h23) (by (try simp only [go_sem, h22, h24, h25]) <;> exact wkl) (by rfl) (by rfl) ?_
         simp only [go_sem, h22, h24, h25]
         (repeat refine sd ?_)
         refine hK _ _ fun nx => ?_; clear hK K; try clear kk
         refine zk ?_; refine nmx ?_
         obtain hR := Option.some.inj hh
         subst hR
         exact zz
       ·rw [if_neg h24] at hh
        replace h24 := Bool.eq_false_iff.mpr h24
        refine zb fun K kk hK => ?_
        simp only [go_sem, h22, h24]
        (repeat refine sd ?_)
        refine zg (wC _ _ h23) (by (try simp only [go_sem, h22, h24]) <;> exact wkl) (by rfl) (by rfl) ?_
        simp only [go_sem, h22, h24]
        (repeat refine sd ?_)
        refine hK _ _ fun nx => ?_; clear hK K; try clear kk
        refine zk ?_; refine nmx ?_
        obtain hR := Option.some.inj hh
        subst hR
        exact zz
      ·rw [if_neg h22] at hh
       replace h22 := Bool.eq_false_iff.mpr h22
       refine zb fun K kk hK => ?_
       simp only [go_sem, h22]
       (repeat refine sd ?_)
       refine hK _ _ fun nx => ?_; clear hK K; try clear kk
       refine zk ?_; refine nmx ?_
       obtain hR := Option.some.inj hh
       subst hR
       exact zz
     ·rw [if_neg h21] at hh
      replace h21 := Bool.eq_false_iff.mpr h21
      refine zi (by first | exact congrArg PV.bool h21 | rfl) ?_
      refine zy ?_; refine nmx ?_
      refine zb fun K kk hK => ?_
      simp only [go_sem]
      refine hK _ _ fun nx => ?_; clear hK K; try clear kk
      refine zk ?_; refine nmx ?_
      obtain hR := Option.some.inj hh
      subst hR
      exact zz
 ·intro i s h; exact h.elim
 ·intro s h; exact h.elim
theorem kX (v_1 : Int) (VU : qP) (R : (Int × qP)) (hh : wS v_1 VU = some R) : BD Tryd.prog 96 [.box 1000 0 0, .box 1001 0 0] [.var 31 [.int .i64 v_1], .var 123 [.list 1 (VU.path.map (PV.int .i64)), .str VU.in_.Kind, .str VU.in_.Text, .list 1 (VU.in_.Marks.map PV.str), .list 2 (VU.in_.zh.map ze.pv), .list 5 (VU.in_.Kids.map za.pv), .int .i64 VU.from_, .int .i64 VU.to_]] (.tup []) [.var 31 [.int .i64 R.1], .var 123 [.list 1 (R.2.path.map (PV.int .i64)), .str R.2.in_.Kind, .str R.2.in_.Text, .list 1 (R.2.in_.Marks.map PV.str), .list 2 (R.2.in_.zh.map ze.pv), .list 5 (R.2.in_.Kids.map za.pv), .int .i64 R.2.from_, .int .i64 R.2.to_]] := by
 rw [wS] at hh
 refine Yt rfl rfl rfl ?_
 refine zb fun K kk hK => ?_
 simp only [go_sem]
 refine hK _ _ fun nx => ?_; clear hK K; try clear kk
 by_cases h1 : (v_1 != (0 : Int)) = true
 ·rw [if_pos h1] at hh
  refine zn (by first | exact congrArg PV.bool h1 | rfl) ?_
  refine zq fun K kk hK => ?_
  simp only [go_sem]
  refine hK _ _ fun nx => ?_; clear hK K; try clear kk
  refine nmx ?_
  obtain hR := Option.some.inj hh
  subst hR
  refine YS ?_
  refine jf ?_ (by rfl) ?_
  ·simp only [go_sem, wT, xy, vg, jk, Qc, List.map_cons, List.map_append, List.head?_cons, h1]
   all_goals exact wkw
  ·(try simp only [go_sem, h1]); (try simp only [List.length_append, List.map_append]); all_goals exact wkb
 ·rw [if_neg h1] at hh
  replace h1 := Bool.eq_false_iff.mpr h1
  refine zi (by first | exact congrArg PV.bool h1 | rfl) ?_
  refine zy ?_; refine nmx ?_
  obtain hR := Option.some.inj hh
  subst hR
  refine YS ?_
  refine jf ?_ (by rfl) ?_
  ·simp only [go_sem, wT, xy, vg, jk, Qc, List.map_cons, List.map_append, List.head?_cons, h1]
   all_goals exact wkw
  ·(try simp only [go_sem, h1]); (try simp only [List.length_append, List.map_append]); all_goals exact wkb
theorem aa2 (kF : (List Int)) (kQ : (List Int)) (R : Bool) (hh : slices_Equal_int kF kQ = some R) : PC Tryd.prog 98 [.list 1 (kF.map (PV.int .i64)), .list 1 (kQ.map (PV.int .i64))] (.bool R) := by
 rw [slices_Equal_int] at hh
 refine X4 rfl ?_
 refine zb fun K kk hK => ?_
 simp only [go_sem]
 refine hK _ _ fun nx => ?_; clear hK K; try clear kk
 refine zm ?_
 refine zb fun K kk hK => ?_
 simp only [go_sem]
 refine hK _ _ fun nx => ?_; clear hK K; try clear kk
 by_cases h1 : ((kF.length : Int) != (kQ.length : Int)) = true
 ·rw [if_pos h1] at hh
  refine zn (by first | exact congrArg PV.bool h1 | rfl) ?_
  refine zb fun K kk hK => ?_
  simp only [go_sem]
  refine hK _ _ fun nx => ?_; clear hK K; try clear kk
  refine zk ?_; refine nmx ?_
  obtain hR := Option.some.inj hh
  subst hR
  exact zz
 ·rw [if_neg h1] at hh
  replace h1 := Bool.eq_false_iff.mpr h1
  refine zi (by first | exact congrArg PV.bool h1 | rfl) ?_
  refine zy ?_; refine nmx ?_
  refine zm ?_
  refine zb fun K kk hK => ?_
  simp only [go_sem]
  refine hK _ _ fun nx => ?_; clear hK K; try clear kk
  obtain ⟨e0, f0, hh⟩ := zf hh
  obtain ⟨hlen0, f0⟩ := qo f0
  refine qD (kE (fun s => .inr () = e0 ∧ ∃ (WO : Int) (Kn : Bool) (nx : Nat), s = ⟨[(0, .list 1 (kF.map (PV.int .i64))), (1, .list 1 (kQ.map (PV.int .i64))), (12, .int .i64 (kF.length : Int)), (13, .int .i64 WO), (14, .bool Kn)], [], nx⟩))
   (fun i s => False)
   (fun s => ∃ kD, .inl kD = e0 ∧ zW Tryd.prog [.tmp 4] (.bool kD) [] .ret s) ?_ ?_ ?_ ?_
  ·refine zC ?_
   refine qg fun I hI => ?_
   have key : ∀ (suf pre : List Int) (v_5 : Int), kF = pre ++ suf → v_5 = (pre.length : Int) → wY kQ suf v_5 = some e0 → ∀ (nx : Nat), I ⟨[(0, .list 1 (kF.map (PV.int .i64))), (1, .list 1 (kQ.map (PV.int .i64))), (12, .int .i64 (kF.length : Int)), (13, .int .i64 v_5)], [], nx⟩ := by
    intro suf
    induction suf with
    | nil =>
     intro pre v_5 hsplit hidx hh nx
     rw [wY] at hh
     refine hI _ ?_
     have h10 := walk_nil hsplit hidx
     refine zb fun K kk hK => ?_
     simp only [go_sem]
     refine hK _ _ fun nx => ?_; clear hK K; try clear kk
     refine zm ?_
     refine zi (by first | exact congrArg PV.bool h10 | rfl) ?_
     refine zU ?_; refine nmx ?_
     refine wJ ?_
     refine zG ?_
     refine ⟨(Option.some.inj hh), ?_⟩
     first | exact ⟨_, _, _, rfl⟩ | (simp only [pvE, lsE, zo]; exact ⟨_, _, _, rfl⟩) | (simp only [pvE, lsE, zo, h1, h10]; exact ⟨_, _, _, rfl⟩)
    | cons y_8 suf ih =>
     intro pre v_5 hsplit hidx hh nx
     rw [wY] at hh
     refine hI _ ?_
     obtain ⟨hl0a, hl0b, hl0d, hl0w, h10⟩ := qZ (f := (PV.int .i64)) hsplit hidx hlen0
     refine zb fun K kk hK => ?_
     simp only [go_sem]
     refine hK _ _ fun nx => ?_; clear hK K; try clear kk
     refine zm ?_
     refine zn (by first | exact congrArg PV.bool h10 | rfl) ?_
     refine zy ?_; refine nmx ?_
     refine zm ?_
     refine zC ?_
     refine zb fun K kk hK => ?_
     simp only [go_sem, hl0a, hl0b, hl0d, hl0w]
     refine hK _ _ fun nx => ?_; clear hK K; try clear kk
     obtain ⟨x_9, h11, hh⟩ := zf hh
     obtain ⟨h11a, h11b, h11c⟩ := rd_some h11
     have h11d := wR (f := (PV.int .i64)) h11c
     have h11f := qM (f := (PV.int .i64)) h11c
     try simp only [Int.toNat_natCast, Int.reduceToNat] at h11d h11f
     refine zb fun K kk hK => ?_
     simp only [go_sem, h11a, h11b, h11d, h11f.1, h11f.2, hl0a, hl0b, hl0d, hl0w]
     (repeat refine sd ?_)
     refine hK _ _ fun nx => ?_; clear hK K; try clear kk
     by_cases h12 : (y_8 != x_9) = true
     ·rw [if_pos h12] at hh
      refine zn (by first | exact congrArg PV.bool h12 | rfl) ?_
      refine zb fun K kk hK => ?_
      simp only [go_sem, hl0a, hl0b, hl0d, hl0w]
      refine hK _ _ fun nx => ?_; clear hK K; try clear kk
      refine zk ?_; refine nmx ?_
      refine Qn ⟨_, (Option.some.inj hh), ?_⟩
      exact zz
     ·rw [if_neg h12] at hh
      replace h12 := Bool.eq_false_iff.mpr h12
      refine zi (by first | exact congrArg PV.bool h12 | rfl) ?_
      refine zy ?_; refine nmx ?_
      refine zq fun K kk hK => ?_
      simp only [go_sem, hl0a, hl0b, hl0d, hl0w]
      refine hK _ _ fun nx => ?_; clear hK K; try clear kk
      refine nmx ?_
      have ih' := ih (pre ++ [y_8]) (v_5 + 1) (by rw [hsplit]; simp) (by simp [hidx]) hh nx
      refine zG ?_
      first | exact ih' | (simp only [pvE, lsE, zo] at ih' ⊢; exact ih') | (simp only [pvE, lsE, zo, h1, h10, h12] at ih' ⊢; exact ih')
   exact key kF [] _ rfl rfl f0 _
  ·rintro s ⟨t, hless, rfl, WO, Kn, nx, rfl⟩
   try dsimp only at hh
   refine nmy ?_
   first | (refine wB hless ?_; try refine kC ?_) | refine qK hless ?_ | refine qI hless ?_
   refine zb fun K kk hK => ?_
   simp only [go_sem]
   refine hK _ _ fun nx => ?_; clear hK K; try clear kk
   refine zk ?_; refine nmx ?_
   obtain hR := Option.some.inj hh
   subst hR
   exact zz
  ·intro i s h; exact h.elim
  ·rintro s ⟨kD, rfl, hb⟩
   try dsimp only at hh
   obtain hR := Option.some.inj hh
   subst hR
   refine nmx ?_
   exact hb
theorem ahg (n_1 : za) (wI : (List Int)) (R : (Int × Int)) (hh : KN n_1 wI = some R) : PC Tryd.prog 99 [.agg [.str n_1.Kind, .str n_1.Text, .list 1 (n_1.Marks.map PV.str), .list 2 (n_1.zh.map ze.pv), .list 5 (n_1.Kids.map za.pv)], .list 1 (wI.map (PV.int .i64))] (.tup [.int .i64 R.1, .int .i64 R.2]) := by
 rw [KN] at hh
 refine ac5 rfl ?_
 refine zb fun K kk hK => ?_
 simp only [go_sem]
 refine hK _ _ fun nx => ?_; clear hK K; try clear kk
 refine zm ?_
 obtain ⟨⟨r_3, r_4⟩, h1, hh⟩ := zf hh
 dsimp only at hh
 refine zb fun K kk hK => ?_
 simp only [go_sem]
 refine zg (y5 _ _ _ h1) (by (try simp only [go_sem]) <;> exact wkl) (by rfl) (by rfl) ?_
 simp only [go_sem]
 refine hK _ _ fun nx => ?_; clear hK K; try clear kk
 refine zb fun K kk hK => ?_
 simp only [go_sem]
 refine hK _ _ fun nx => ?_; clear hK K; try clear kk
 by_cases h2 : (r_4 != (0 : Int)) = true
 ·rw [if_pos h2] at hh
  refine zn (by first | exact congrArg PV.bool h2 | rfl) ?_
  refine zb fun K kk hK => ?_
  simp only [go_sem]
  refine hK _ _ fun nx => ?_; clear hK K; try clear kk
  refine zk ?_; refine nmx ?_
  obtain hR := Option.some.inj hh
  subst hR
  exact zz
 ·rw [if_neg h2] at hh
  replace h2 := Bool.eq_false_iff.mpr h2
  refine zi (by first | exact congrArg PV.bool h2 | rfl) ?_
  refine zy ?_; refine nmx ?_
  refine zb fun K kk hK => ?_
  simp only [go_sem]
  refine hK _ _ fun nx => ?_; clear hK K; try clear kk
  refine zm ?_
  refine zb fun K kk hK => ?_
  simp only [go_sem]
  refine hK _ _ fun nx => ?_; clear hK K; try clear kk
  obtain ⟨e0, f0, hh⟩ := zf hh
  obtain ⟨hlen0, f0⟩ := qo f0
  refine qD (kE (fun s => ∃ an3, an3 = e0 ∧ ∃ (ad8 : Int) (ayh : Bool) (arK : za) (nx : Nat) (g2 : Nat), s = ⟨[(2, .box 2 g2 0), (8, .int .i64 an3), (20, .list 1 (wI.map (PV.int .i64))), (21, .int .i64 (wI.length : Int)), (22, .int .i64 ad8), (23, .bool ayh)], [(2, g2, .var 28 [.str arK.Kind, .str arK.Text, .list 1 (arK.Marks.map PV.str), .list 2 (arK.zh.map ze.pv), .list 5 (arK.Kids.map za.pv)])], nx⟩))
   (fun i s => False)
   (fun s => False) ?_ ?_ ?_ ?_
  ·refine zC ?_
   refine qg fun I hI => ?_
   have key : ∀ (suf pre : List Int) (WO : Int) (agf : Int) (n_9 : za), wI = pre ++ suf → WO = (pre.length : Int) → jR suf WO agf n_9 = some e0 → ∀ (nx : Nat) (g2 : Nat), I ⟨[(2, .box 2 g2 0), (8, .int .i64 agf), (20, .list 1 (wI.map (PV.int .i64))), (21, .int .i64 (wI.length : Int)), (22, .int .i64 WO)], [(2, g2, .var 28 [.str n_9.Kind, .str n_9.Text, .list 1 (n_9.Marks.map PV.str), .list 2 (n_9.zh.map ze.pv), .list 5 (n_9.Kids.map za.pv)])], nx⟩ := by
    intro suf
    induction suf with
    | nil =>
     intro pre WO agf n_9 hsplit hidx hh nx g2
     rw [jR] at hh
     refine hI _ ?_
     have h13 := walk_nil hsplit hidx
     refine zb fun K kk hK => ?_
     simp only [go_sem]
     refine hK _ _ fun nx => ?_; clear hK K; try clear kk
     refine zm ?_
     refine zi (by first | exact congrArg PV.bool h13 | rfl) ?_
     refine zU ?_; refine nmx ?_
     refine wJ ?_
     refine zG ?_
     refine ⟨_, (Option.some.inj hh), ?_⟩
     first | exact ⟨_, _, _, _, _, rfl⟩ | (simp only [pvE, lsE, zo]; exact ⟨_, _, _, _, _, rfl⟩) | (simp only [pvE, lsE, zo, h13, h2]; exact ⟨_, _, _, _, _, rfl⟩)
    | cons avw suf ih =>
     intro pre WO agf n_9 hsplit hidx hh nx g2
     rw [jR] at hh
     refine hI _ ?_
     obtain ⟨hl0a, hl0b, hl0d, hl0w, h13⟩ := qZ (f := (PV.int .i64)) hsplit hidx hlen0
     refine zb fun K kk hK => ?_
     simp only [go_sem]
     refine hK _ _ fun nx => ?_; clear hK K; try clear kk
     refine zm ?_
     refine zn (by first | exact congrArg PV.bool h13 | rfl) ?_
     refine zy ?_; refine nmx ?_
     refine zm ?_
     refine zC ?_
     refine zb fun K kk hK => ?_
     simp only [go_sem, hl0a, hl0b, hl0d, hl0w]
     refine hK _ _ fun nx => ?_; clear hK K; try clear kk
     obtain ⟨axK, h14, hh⟩ := zf hh
     obtain ⟨h14a, h14c⟩ := yL h14
     have h14g := Ju h14a
     have h14d := Jr (f := za.pv) h14c
     try simp only [Int.toNat_natCast, Int.reduceToNat, List.map_cons, List.map_nil, pvE] at h14d
     obtain ⟨amq, h15, hh⟩ := zf hh
     refine zb fun K kk hK => ?_
     simp only [go_sem, h14a.1, h14a.2.1, h14a.2.2, h14d, h14g, hl0a, hl0b, hl0d, hl0w]
     (repeat refine sd ?_)
     refine zg (jM _ _ h15) (by (try simp only [go_sem, h14a.1, h14a.2.1, h14a.2.2, h14d, h14g, hl0a, hl0b, hl0d, hl0w]) <;> exact wkl) (by rfl) (by rfl) ?_
     simp only [go_sem, h14a.1, h14a.2.1, h14a.2.2, h14d, h14g, hl0a, hl0b, hl0d, hl0w]
     (repeat refine sd ?_)
     refine hK _ _ fun nx => ?_; clear hK K; try clear kk
     obtain ⟨atF, h16, hh⟩ := zf hh
     obtain ⟨h16a, h16b, h16c⟩ := rd_some h16
     have h16d := wR (f := za.pv) h16c
     have h16f := qM (f := za.pv) h16c
     try simp only [Int.toNat_natCast, Int.reduceToNat] at h16d h16f
     refine zq fun K kk hK => ?_
     simp only [go_sem, h16a, h16b, h16d, h16f.1, h16f.2, hl0a, hl0b, hl0d, hl0w]
     (repeat refine sd ?_)
     refine hK _ _ fun nx => ?_; clear hK K; try clear kk
     refine nmx ?_
     refine zq fun K kk hK => ?_
     simp only [go_sem, hl0a, hl0b, hl0d, hl0w]
     refine hK _ _ fun nx => ?_; clear hK K; try clear kk
     refine nmx ?_
     have ih' := ih (pre ++ [avw]) (WO + 1) _ _ (by rw [hsplit]; simp) (by simp [hidx]) hh nx
     refine zG ?_
     first | exact ih' _ | (simp only [pvE, lsE, zo] at ih' ⊢; exact ih' _) | (simp only [pvE, lsE, zo, h13, h2] at ih' ⊢; exact ih' _)
   exact key wI [] _ _ _ rfl rfl f0 _ _
  ·rintro s ⟨t, hless, an3, rfl, ad8, ayh, arK, nx, g2, rfl⟩
   try dsimp only at hh
   refine nmy ?_
   first | (refine wB hless ?_; try refine kC ?_) | refine qK hless ?_ | refine qI hless ?_
   refine zb fun K kk hK => ?_
   simp only [go_sem]
   refine hK _ _ fun nx => ?_; clear hK K; try clear kk
   refine zk ?_; refine nmx ?_
   obtain hR := Option.some.inj hh
   subst hR
   exact zz
  ·intro i s h; exact h.elim
  ·intro s h; exact h.elim
theorem ahW (n_1 : za) (Kh : Int) (aeC : Int) (R : (qP × Int)) (hh : yV n_1 Kh aeC = some R) : PC Tryd.prog 72 [.agg [.str n_1.Kind, .str n_1.Text, .list 1 (n_1.Marks.map PV.str), .list 2 (n_1.zh.map ze.pv), .list 5 (n_1.Kids.map za.pv)], .int .i64 Kh, .int .i64 aeC] (.tup [.agg [.list 1 (R.1.path.map (PV.int .i64)), .str R.1.in_.Kind, .str R.1.in_.Text, .list 1 (R.1.in_.Marks.map PV.str), .list 2 (R.1.in_.zh.map ze.pv), .list 5 (R.1.in_.Kids.map za.pv), .int .i64 R.1.from_, .int .i64 R.1.to_], .int .i64 R.2]) := by
 rw [yV] at hh
 refine acP rfl ?_
 refine zq fun K kk hK => ?_
 simp only [go_sem]
 refine hK _ _ fun nx => ?_; clear hK K; try clear kk
 refine nmx ?_
 refine axg 7 6 _ _ _ _ _ _ [1, 2, 3] [3] ⟨rfl, rfl, rfl, rfl, by decide, by decide, by decide, rfl, rfl, rfl, rfl⟩ rfl ?_
 refine awx (t := ⟨[(7, .box 1000 0 0), (6, .box 1001 0 0), (1, .int .i64 Kh), (2, .int .i64 aeC), (3, .box 3 _ 0)], [(1000, 0, .var 31 [.int .i64 (0 : Int)]), (1001, 0, .var 123 [.list 1 ([].map (PV.int .i64)), .str ([] : Str), .str ([] : Str), .list 1 ([].map PV.str), .list 2 ([].map ze.pv), .list 5 ([].map za.pv), .int .i64 (0 : Int), .int .i64 (0 : Int)]), (3, _, .var 28 [.str n_1.Kind, .str n_1.Text, .list 1 (n_1.Marks.map PV.str), .list 2 (n_1.zh.map ze.pv), .list 5 (n_1.Kids.map za.pv)])], nx⟩) ?_ (by rfl)
 refine zm ?_
 by_cases h1 : (n_1.Kind == ([116, 101, 120, 116] : Str)) = true
 ·rw [if_pos h1] at hh
  refine zb fun K kk hK => ?_
  simp only [go_sem, h1]
  (repeat refine sd ?_)
  refine hK _ _ fun nx => ?_; clear hK K; try clear kk
  refine zn rfl ?_
  refine zb fun K kk hK => ?_
  simp only [go_sem]
  refine hK _ _ fun nx => ?_; clear hK K; try clear kk
  refine zk ?_; refine nmx ?_
  obtain ⟨⟨v_4, atj⟩, h2, hh⟩ := zf hh
  dsimp only at hh
  obtain hR := Option.some.inj hh
  subst hR
  refine WR (kX _ _ _ h2) (by (try simp only [go_sem, h1]) <;> exact wkb) (by rfl) ?_ (by rfl)
  simp only [St.V7, dKs, go_sem, h1, wT, xy, vg, jk, Qc, List.map_cons, List.map_append, List.head?_cons]
  all_goals exact wkw
 ·rw [if_neg h1] at hh
  replace h1 := Bool.eq_false_iff.mpr h1
  obtain ⟨akX, h3, hh⟩ := zf hh
  refine zb fun K kk hK => ?_
  simp only [go_sem, h1]
  (repeat refine sd ?_)
  refine zg (xJ _ _ h3) (by (try simp only [go_sem, h1]) <;> exact wkl) (by rfl) (by rfl) ?_
  simp only [go_sem, h1]
  (repeat refine sd ?_)
  refine hK _ _ fun nx => ?_; clear hK K; try clear kk
  by_cases h4 : (!akX) = true
  ·rw [if_pos h4] at hh
   refine zn (by first | exact congrArg PV.bool h4 | rfl) ?_
   refine zb fun K kk hK => ?_
   simp only [go_sem]
   refine hK _ _ fun nx => ?_; clear hK K; try clear kk
   refine zk ?_; refine nmx ?_
   obtain ⟨⟨v_7, auP⟩, h5, hh⟩ := zf hh
   dsimp only at hh
   obtain hR := Option.some.inj hh
   subst hR
   refine WR (kX _ _ _ h5) (by (try simp only [go_sem, h1, h4]) <;> exact wkb) (by rfl) ?_ (by rfl)
   simp only [St.V7, dKs, go_sem, h1, h4, wT, xy, vg, jk, Qc, List.map_cons, List.map_append, List.head?_cons]
   all_goals exact wkw
  ·rw [if_neg h4] at hh
   replace h4 := Bool.eq_false_iff.mpr h4
   refine zi (by first | exact congrArg PV.bool h4 | rfl) ?_
   refine zy ?_; refine nmx ?_
   obtain ⟨⟨r_9, J2⟩, h6, hh⟩ := zf hh
   dsimp only at hh
   refine zb fun K kk hK => ?_
   simp only [go_sem]
   refine zg (WU _ _ _ h6) (by (try simp only [go_sem]) <;> exact wkl) (by rfl) (by rfl) ?_
   simp only [go_sem]
   refine hK _ _ fun nx => ?_; clear hK K; try clear kk
   refine zm ?_
   refine zb fun K kk hK => ?_
   simp only [go_sem]
   refine hK _ _ fun nx => ?_; clear hK K; try clear kk
   by_cases h7 : (J2 != (0 : Int)) = true
   ·rw [if_pos h7] at hh
    refine zn (by first | exact congrArg PV.bool h7 | rfl) ?_
    refine zb fun K kk hK => ?_
    simp only [go_sem]
    refine hK _ _ fun nx => ?_; clear hK K; try clear kk
    refine zk ?_; refine nmx ?_
    obtain ⟨⟨WO, apP⟩, h8, hh⟩ := zf hh
    dsimp only at hh
    obtain hR := Option.some.inj hh
    subst hR
    refine WR (kX _ _ _ h8) (by (try simp only [go_sem, h1, h4, h7]) <;> exact wkb) (by rfl) ?_ (by rfl)
    simp only [St.V7, dKs, go_sem, h1, h4, h7, wT, xy, vg, jk, Qc, List.map_cons, List.map_append, List.head?_cons]
    all_goals exact wkw
   ·rw [if_neg h7] at hh
    replace h7 := Bool.eq_false_iff.mpr h7
    refine zi (by first | exact congrArg PV.bool h7 | rfl) ?_
    refine zy ?_; refine nmx ?_
    obtain ⟨⟨aaz, agD⟩, h9, hh⟩ := zf hh
    dsimp only at hh
    refine zb fun K kk hK => ?_
    simp only [go_sem]
    refine zg (WU _ _ _ h9) (by (try simp only [go_sem]) <;> exact wkl) (by rfl) (by rfl) ?_
    simp only [go_sem]
    refine hK _ _ fun nx => ?_; clear hK K; try clear kk
    refine zm ?_
    refine zC ?_
    refine zb fun K kk hK => ?_
    simp only [go_sem]
    refine hK _ _ fun nx => ?_; clear hK K; try clear kk
    by_cases h10 : (agD != (0 : Int)) = true
    ·rw [if_pos h10] at hh
     refine zn (by first | exact congrArg PV.bool h10 | rfl) ?_
     refine zb fun K kk hK => ?_
     simp only [go_sem]
     refine hK _ _ fun nx => ?_; clear hK K; try clear kk
     refine zk ?_; refine nmx ?_
     obtain ⟨⟨XP, ap7⟩, h11, hh⟩ := zf hh
     dsimp only at hh
     obtain hR := Option.some.inj hh
     subst hR
     refine WR (kX _ _ _ h11) (by (try simp only [go_sem, h1, h10, h4, h7]) <;> exact wkb) (by rfl) ?_ (by rfl)
     simp only [St.V7, dKs, go_sem, h1, h10, h4, h7, wT, xy, vg, jk, Qc, List.map_cons, List.map_append, List.head?_cons]
     all_goals exact wkw
    ·rw [if_neg h10] at hh
     replace h10 := Bool.eq_false_iff.mpr h10
     refine zi (by first | exact congrArg PV.bool h10 | rfl) ?_
     refine zb fun K kk hK => ?_
     simp only [go_sem]
     refine hK _ _ fun nx => ?_; clear hK K; try clear kk
     by_cases h12 : (decide (aeC < Kh)) = true
     ·rw [if_pos h12] at hh
      refine zn (by first | exact congrArg PV.bool h12 | rfl) ?_
      refine zb fun K kk hK => ?_
      simp only [go_sem]
      refine hK _ _ fun nx => ?_; clear hK K; try clear kk
      refine zk ?_; refine nmx ?_
      obtain ⟨⟨amw, aqL⟩, h13, hh⟩ := zf hh
      dsimp only at hh
      obtain hR := Option.some.inj hh
      subst hR
      refine WR (kX _ _ _ h13) (by (try simp only [go_sem, h1, h10, h12, h4, h7]) <;> exact wkb) (by rfl) ?_ (by rfl)
      simp only [St.V7, dKs, go_sem, h1, h10, h12, h4, h7, wT, xy, vg, jk, Qc, List.map_cons, List.map_append, List.head?_cons]
      all_goals exact wkw
     ·rw [if_neg h12] at hh
      replace h12 := Bool.eq_false_iff.mpr h12
      refine zi (by first | exact congrArg PV.bool h12 | rfl) ?_
      obtain ⟨apk, h14, hh⟩ := zf hh
      refine zb fun K kk hK => ?_
      simp only [go_sem]
      refine zg (aa2 _ _ _ h14) (by (try simp only [go_sem]) <;> exact wkl) (by rfl) (by rfl) ?_
      simp only [go_sem]
      refine hK _ _ fun nx => ?_; clear hK K; try clear kk
      by_cases h15 : (!apk) = true
      ·rw [if_pos h15] at hh
       refine zn (by first | exact congrArg PV.bool h15 | rfl) ?_
       refine zb fun K kk hK => ?_
       simp only [go_sem]
       refine hK _ _ fun nx => ?_; clear hK K; try clear kk
       refine zk ?_; refine nmx ?_
       obtain ⟨⟨Je, aqF⟩, h16, hh⟩ := zf hh
       dsimp only at hh
       obtain hR := Option.some.inj hh
       subst hR
       refine WR (kX _ _ _ h16) (by (try simp only [go_sem, h1, h10, h12, h15, h4, h7]) <;> exact wkb) (by rfl) ?_ (by rfl)
       simp only [St.V7, dKs, go_sem, h1, h10, h12, h15, h4, h7, wT, xy, vg, jk, Qc, List.map_cons, List.map_append, List.head?_cons]
       all_goals exact wkw
      ·rw [if_neg h15] at hh
       replace h15 := Bool.eq_false_iff.mpr h15
       refine zi (by first | exact congrArg PV.bool h15 | rfl) ?_
       refine zy ?_; refine nmx ?_
       obtain ⟨⟨awN, ayG⟩, h17, hh⟩ := zf hh
       dsimp only at hh
       refine zb fun K kk hK => ?_
       simp only [go_sem]
       refine zg (ahg _ _ _ h17) (by (try simp only [go_sem]) <;> exact wkl) (by rfl) (by rfl) ?_
       simp only [go_sem]
       refine hK _ _ fun nx => ?_; clear hK K; try clear kk
       obtain ⟨⟨axs, aoR⟩, h18, hh⟩ := zf hh
       dsimp only at hh
       refine zb fun K kk hK => ?_
       simp only [go_sem]
       refine zg (y5 _ _ _ h18) (by (try simp only [go_sem]) <;> exact wkl) (by rfl) (by rfl) ?_
       simp only [go_sem]
       refine hK _ _ fun nx => ?_; clear hK K; try clear kk
       refine zb fun K kk hK => ?_
       simp only [go_sem]
       refine hK _ _ fun nx => ?_; clear hK K; try clear kk
       refine zk ?_; refine nmx ?_
       obtain ⟨⟨Y9, aqe⟩, h19, hh⟩ := zf hh
       dsimp only at hh
       obtain hR := Option.some.inj hh
       subst hR
       refine WR (kX _ _ _ h19) (by (try simp only [go_sem, h1, h10, h12, h15, h4, h7]) <;> exact wkb) (by rfl) ?_ (by rfl)
       simp only [St.V7, dKs, go_sem, h1, h10, h12, h15, h4, h7, wT, xy, vg, jk, Qc, List.map_cons, List.map_append, List.head?_cons]
       all_goals exact wkw
end Go.Proofs.YtclohbgnaopjfaaDoor
