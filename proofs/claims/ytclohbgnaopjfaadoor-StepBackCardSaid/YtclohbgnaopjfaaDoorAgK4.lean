/- Texts of the proof of stepBackCard -/
import Derived.Test.YtclohbgnaopjfaaDoorAgC
import Derived.Test.YtclohbgnaopjfaaDoorAgF
import Derived.Test.YtclohbgnaopjfaaDoorAgK0
import Derived.Test.YtclohbgnaopjfaaDoorAgK1
import Derived.Test.YtclohbgnaopjfaaDoorAgK2
namespace Go.Proofs.YtclohbgnaopjfaaDoor
set_option linter.unusedSimpArgs false
set_option linter.unusedVariables false
open Go
set_option maxRecDepth 100000
theorem ajb (s_1 : zz) (R : Bool) (hh : xU s_1 = some R) : PC Tryd.prog 48 [.agg [.int .u8 s_1.Kind, .int .i64 s_1.From, .int .i64 s_1.To, .list 5 (s_1.wC.map za.pv), .str s_1.Name, .str s_1.Value]] (.bool R) := by
 rw [xU] at hh
 refine aeD rfl ?_
 refine zb fun K kk hK => ?_
 simp only [go_sem]
 refine hK _ _ fun nx => ?_; clear hK K; try clear kk
 refine zm ?_
 obtain ⟨e0, f0, hh⟩ := zf hh
 refine VI (fun s => ∃ Jq, Jq = e0 ∧ ∃ (nx : Nat) (g1 : Nat), s = ⟨[(1, .box 1 g1 0), (3, .bool Jq)], [(1, g1, .var 39 [.int .u8 s_1.Kind, .int .i64 s_1.From, .int .i64 s_1.To, .list 5 (s_1.wC.map za.pv), .str s_1.Name, .str s_1.Value])], nx⟩)
  (fun i s => False)
  (fun s => False) ?_ ?_ ?_ ?_
 ·have hh := f0
  by_cases h1 : (decide (s_1.From ≥ (0 : Int))) = true
  ·rw [if_pos h1] at hh
   by_cases h2 : (decide (s_1.From ≤ s_1.To)) = true
   ·rw [if_pos h2] at hh
    refine zu fun K kk hK => ?_
    simp only [go_sem, h1, of_decide_eq_true h1, h2, of_decide_eq_true h2]
    (repeat refine sd ?_)
    refine hK _ _ fun nx => ?_; clear hK K; try clear kk
    refine nmx ?_
    refine kN ?_
    refine zJ ?_
    refine ⟨_, (Option.some.inj hh), ?_⟩
    first | exact ⟨_, _, rfl⟩ | (simp only [pvE, lsE, zq]; exact ⟨_, _, rfl⟩) | (simp only [pvE, lsE, zq, h1, h2]; exact ⟨_, _, rfl⟩)
   ·rw [if_neg h2] at hh
    replace h2 := Bool.eq_false_iff.mpr h2
    refine zu fun K kk hK => ?_
    simp only [go_sem, h1, of_decide_eq_true h1, h2, of_decide_eq_false h2]
    (repeat refine sd ?_)
    refine hK _ _ fun nx => ?_; clear hK K; try clear kk
    refine nmx ?_
    refine kN ?_
    refine zJ ?_
    refine ⟨_, (Option.some.inj hh), ?_⟩
    first | exact ⟨_, _, rfl⟩ | (simp only [pvE, lsE, zq]; exact ⟨_, _, rfl⟩) | (simp only [pvE, lsE, zq, h1, h2]; exact ⟨_, _, rfl⟩)
  ·rw [if_neg h1] at hh
   replace h1 := Bool.eq_false_iff.mpr h1
   refine zu fun K kk hK => ?_
   simp only [go_sem, h1, of_decide_eq_false h1]
   (repeat refine sd ?_)
   refine hK _ _ fun nx => ?_; clear hK K; try clear kk
   refine nmx ?_
   refine kN ?_
   refine zJ ?_
   refine ⟨_, (Option.some.inj hh), ?_⟩
   first | exact ⟨_, _, rfl⟩ | (simp only [pvE, lsE, zq]; exact ⟨_, _, rfl⟩) | (simp only [pvE, lsE, zq, h1]; exact ⟨_, _, rfl⟩)
 ·rintro s ⟨Jq, rfl, nx, g1, rfl⟩
  try dsimp only at hh
  refine zm ?_
  refine zb fun K kk hK => ?_
  simp only [go_sem]
  refine hK _ _ fun nx => ?_; clear hK K; try clear kk
  refine zC ?_
  refine zb fun K kk hK => ?_
  simp only [go_sem]
  refine hK _ _ fun nx => ?_; clear hK K; try clear kk
  by_cases h3 : (s_1.Kind == (114 : Int)) = true
  ·rw [if_pos h3] at hh
   refine zn (by first | exact congrArg PV.bool h3 | rfl) ?_
   obtain ⟨ale, h4, hh⟩ := zf hh
   refine zb fun K kk hK => ?_
   simp only [go_sem]
   refine ze (WH _ _ h4) (by (try simp only [go_sem]) <;> exact wkl) (by rfl) (by rfl) ?_
   simp only [go_sem]
   refine hK _ _ fun nx => ?_; clear hK K; try clear kk
   by_cases h5 : (Jq) = true
   ·rw [if_pos h5] at hh
    by_cases h6 : (ale != (2 : Int)) = true
    ·rw [if_pos h6] at hh
     obtain ⟨h7, hh⟩ := z8 hh
     refine zb fun K kk hK => ?_
     simp only [go_sem, h5, h6, h7]
     (repeat refine sd ?_)
     refine hK _ _ fun nx => ?_; clear hK K; try clear kk
     refine zi ?_; refine nmx ?_
     obtain hR := Option.some.inj hh
     subst hR
     exact zy
    ·rw [if_neg h6] at hh
     replace h6 := Bool.eq_false_iff.mpr h6
     refine zb fun K kk hK => ?_
     simp only [go_sem, h5, h6]
     (repeat refine sd ?_)
     refine hK _ _ fun nx => ?_; clear hK K; try clear kk
     refine zi ?_; refine nmx ?_
     obtain hR := Option.some.inj hh
     subst hR
     exact zy
   ·rw [if_neg h5] at hh
    replace h5 := Bool.eq_false_iff.mpr h5
    refine zb fun K kk hK => ?_
    simp only [go_sem, h5]
    (repeat refine sd ?_)
    refine hK _ _ fun nx => ?_; clear hK K; try clear kk
    refine zi ?_; refine nmx ?_
    obtain hR := Option.some.inj hh
    subst hR
    exact zy
  ·rw [if_neg h3] at hh
   replace h3 := Bool.eq_false_iff.mpr h3
   refine zh (by first | exact congrArg PV.bool h3 | rfl) ?_
   refine zb fun K kk hK => ?_
   simp only [go_sem]
   refine hK _ _ fun nx => ?_; clear hK K; try clear kk
   by_cases h8 : (s_1.Kind == (97 : Int)) = true
   ·rw [if_pos h8] at hh
    refine zn (by first | exact congrArg PV.bool h8 | rfl) ?_
    by_cases h9 : (decide (s_1.From ≥ (-1 : Int))) = true
    ·rw [if_pos h9] at hh
     by_cases h10 : (decide (s_1.From ≤ (1048576 : Int))) = true
     ·rw [if_pos h10] at hh
      by_cases h11 : (s_1.To == (0 : Int)) = true
      ·rw [if_pos h11] at hh
       obtain ⟨anN, h12, hh⟩ := zf hh
       by_cases h13 : (anN) = true
       ·rw [if_pos h13] at hh
        obtain ⟨akZ, h14, hh⟩ := zf hh
        by_cases h15 : (akZ) = true
        ·rw [if_pos h15] at hh
         refine zb fun K kk hK => ?_
         simp only [go_sem, h9, of_decide_eq_true h9, h10, of_decide_eq_true h10, h11, h13, h15]
         (repeat refine sd ?_)
         refine ze (qZ _ _ h12) (by (try simp only [go_sem, h9, of_decide_eq_true h9, h10, of_decide_eq_true h10, h11, h13, h15]) <;> exact wkl) (by rfl) (by rfl) ?_
         simp only [go_sem, h9, of_decide_eq_true h9, h10, of_decide_eq_true h10, h11, h13, h15]
         (repeat refine sd ?_)
         refine ze (Jz _ _ h14) (by (try simp only [go_sem, h9, of_decide_eq_true h9, h10, of_decide_eq_true h10, h11, h13, h15]) <;> exact wkl) (by rfl) (by rfl) ?_
         simp only [go_sem, h9, of_decide_eq_true h9, h10, of_decide_eq_true h10, h11, h13, h15]
         (repeat refine sd ?_)
         refine hK _ _ fun nx => ?_; clear hK K; try clear kk
         refine zi ?_; refine nmx ?_
         obtain hR := Option.some.inj hh
         subst hR
         exact zy
        ·rw [if_neg h15] at hh
         replace h15 := Bool.eq_false_iff.mpr h15
         refine zb fun K kk hK => ?_
         simp only [go_sem, h9, of_decide_eq_true h9, h10, of_decide_eq_true h10, h11, h13, h15]
         (repeat refine sd ?_)
         refine ze (qZ _ _ h12) (by (try simp only [go_sem, h9, of_decide_eq_true h9, h10, of_decide_eq_true h10, h11, h13, h15]) <;> exact wkl) (by rfl) (by rfl) ?_
         simp only [go_sem, h9, of_decide_eq_true h9, h10, of_decide_eq_true h10, h11, h13, h15]
         (repeat refine sd ?_)
         refine ze (Jz _ _ h14) (by (try simp only [go_sem, h9, of_decide_eq_true h9, h10, of_decide_eq_true h10, h11, h13, h15]) <;> exact wkl) (by rfl) (by rfl) ?_
         simp only [go_sem, h9, of_decide_eq_true h9, h10, of_decide_eq_true h10, h11, h13, h15]
         (repeat refine sd ?_)
         refine hK _ _ fun nx => ?_; clear hK K; try clear kk
         refine zi ?_; refine nmx ?_
         obtain hR := Option.some.inj hh
         subst hR
         exact zy
       ·rw [if_neg h13] at hh
        replace h13 := Bool.eq_false_iff.mpr h13
        refine zb fun K kk hK => ?_
        simp only [go_sem, h9, of_decide_eq_true h9, h10, of_decide_eq_true h10, h11, h13]
        (repeat refine sd ?_)
        refine ze (qZ _ _ h12) (by (try simp only [go_sem, h9, of_decide_eq_true h9, h10, of_decide_eq_true h10, h11, h13]) <;> exact wkl) (by rfl) (by rfl) ?_
        simp only [go_sem, h9, of_decide_eq_true h9, h10, of_decide_eq_true h10, h11, h13]
        (repeat refine sd ?_)
        refine hK _ _ fun nx => ?_; clear hK K; try clear kk
        refine zi ?_; refine nmx ?_
        obtain hR := Option.some.inj hh
        subst hR
        exact zy
      ·rw [if_neg h11] at hh
       replace h11 := Bool.eq_false_iff.mpr h11
       refine zb fun K kk hK => ?_
       simp only [go_sem, h9, of_decide_eq_true h9, h10, of_decide_eq_true h10, h11]
       (repeat refine sd ?_)
       refine hK _ _ fun nx => ?_; clear hK K; try clear kk
       refine zi ?_; refine nmx ?_
       obtain hR := Option.some.inj hh
       subst hR
       exact zy
     ·rw [if_neg h10] at hh
      replace h10 := Bool.eq_false_iff.mpr h10
      refine zb fun K kk hK => ?_
      simp only [go_sem, h9, of_decide_eq_true h9, h10, of_decide_eq_false h10]
      (repeat refine sd ?_)
      refine hK _ _ fun nx => ?_; clear hK K; try clear kk
      refine zi ?_; refine nmx ?_
      obtain hR := Option.some.inj hh
      subst hR
      exact zy
    ·rw [if_neg h9] at hh
     replace h9 := Bool.eq_false_iff.mpr h9
     refine zb fun K kk hK => ?_
     simp only [go_sem, h9, of_decide_eq_false h9]
     (repeat refine sd ?_)
     refine hK _ _ fun nx => ?_; clear hK K; try clear kk
     refine zi ?_; refine nmx ?_
     obtain hR := Option.some.inj hh
     subst hR
     exact zy
   ·rw [if_neg h8] at hh
    replace h8 := Bool.eq_false_iff.mpr h8
    refine zh (by first | exact congrArg PV.bool h8 | rfl) ?_
    refine zm ?_
    refine zb fun K kk hK => ?_
    simp only [go_sem]
    refine hK _ _ fun nx => ?_; clear hK K; try clear kk
    by_cases h16 : (s_1.Kind == (109 : Int)) = true
    ·rw [if_pos h16] at hh
     refine zn (by first | exact congrArg PV.bool h16 | rfl) ?_
     refine zx ?_; refine nmx ?_
     refine zn (by first | exact congrArg PV.bool h16 | rfl) ?_
     by_cases h17 : (Jq) = true
     ·rw [if_pos h17] at hh
      obtain ⟨anQ, h18, hh⟩ := zf hh
      by_cases h19 : (anQ) = true
      ·rw [if_pos h19] at hh
       by_cases h20 : ((s_1.wC.length : Int) == (0 : Int)) = true
       ·rw [if_pos h20] at hh
        refine zb fun K kk hK => ?_
        simp only [go_sem, h17, h19, h20]
        (repeat refine sd ?_)
        refine ze (qZ _ _ h18) (by (try simp only [go_sem, h17, h19, h20]) <;> exact wkl) (by rfl) (by rfl) ?_
        simp only [go_sem, h17, h19, h20]
        (repeat refine sd ?_)
        refine hK _ _ fun nx => ?_; clear hK K; try clear kk
        refine zi ?_; refine nmx ?_
        obtain hR := Option.some.inj hh
        subst hR
        exact zy
       ·rw [if_neg h20] at hh
        replace h20 := Bool.eq_false_iff.mpr h20
        refine zb fun K kk hK => ?_
        simp only [go_sem, h17, h19, h20]
        (repeat refine sd ?_)
        refine ze (qZ _ _ h18) (by (try simp only [go_sem, h17, h19, h20]) <;> exact wkl) (by rfl) (by rfl) ?_
        simp only [go_sem, h17, h19, h20]
        (repeat refine sd ?_)
        refine hK _ _ fun nx => ?_; clear hK K; try clear kk
        refine zi ?_; refine nmx ?_
        obtain hR := Option.some.inj hh
        subst hR
        exact zy
      ·rw [if_neg h19] at hh
       replace h19 := Bool.eq_false_iff.mpr h19
       refine zb fun K kk hK => ?_
       simp only [go_sem, h17, h19]
       (repeat refine sd ?_)
       refine ze (qZ _ _ h18) (by (try simp only [go_sem, h17, h19]) <;> exact wkl) (by rfl) (by rfl) ?_
       simp only [go_sem, h17, h19]
       (repeat refine sd ?_)
       refine hK _ _ fun nx => ?_; clear hK K; try clear kk
       refine zi ?_; refine nmx ?_
       obtain hR := Option.some.inj hh
       subst hR
       exact zy
     ·rw [if_neg h17] at hh
      replace h17 := Bool.eq_false_iff.mpr h17
      refine zb fun K kk hK => ?_
      simp only [go_sem, h17]
      (repeat refine sd ?_)
      refine hK _ _ fun nx => ?_; clear hK K; try clear kk
      refine zi ?_; refine nmx ?_
      obtain hR := Option.some.inj hh
      subst hR
      exact zy
    ·rw [if_neg h16] at hh
     replace h16 := Bool.eq_false_iff.mpr h16
     refine zh (by first | exact congrArg PV.bool h16 | rfl) ?_
     refine zu fun K kk hK => ?_
     simp only [go_sem]
     refine hK _ _ fun nx => ?_; clear hK K; try clear kk
     refine nmx ?_
     by_cases h21 : (s_1.Kind == (117 : Int)) = true
     ·rw [if_pos h21] at hh
      refine zn (by first | exact congrArg PV.bool h21 | rfl) ?_
      by_cases h22 : (Jq) = true
      ·rw [if_pos h22] at hh
       obtain ⟨aoG, h23, hh⟩ := zf hh
       by_cases h24 : (aoG) = true
       ·rw [if_pos h24] at hh
        by_cases h25 : ((s_1.wC.length : Int) == (0 : Int)) = true
        ·rw [if_pos h25] at hh
         refine zb fun K kk hK => ?_
         simp only [go_sem, h22, h24, h25]
         (repeat refine sd ?_)
         refine ze (qZ _ _ h23) (by (try simp only [go_sem, h22, h24, h25]) <;> exact wkl) (by rfl) (by rfl) ?_
         simp only [go_sem, h22, h24, h25]
         (repeat refine sd ?_)
         refine hK _ _ fun nx => ?_; clear hK K; try clear kk
         refine zi ?_; refine nmx ?_
         obtain hR := Option.some.inj hh
         subst hR
         exact zy
        ·rw [if_neg h25] at hh
         replace h25 := Bool.eq_false_iff.mpr h25
         refine zb fun K kk hK => ?_
         simp only [go_sem, h22, h24, h25]
         (repeat refine sd ?_)
         refine ze (qZ _ _ h23) (by (try simp only [go_sem, h22, h24, h25]) <;> exact wkl) (by rfl) (by rfl) ?_
         simp only [go_sem, h22, h24, h25]
         (repeat refine sd ?_)
         refine hK _ _ fun nx => ?_; clear hK K; try clear kk
         refine zi ?_; refine nmx ?_
         obtain hR := Option.some.inj hh
         subst hR
         exact zy
       ·rw [if_neg h24] at hh
        replace h24 := Bool.eq_false_iff.mpr h24
        refine zb fun K kk hK => ?_
        simp only [go_sem, h22, h24]
        (repeat refine sd ?_)
        refine ze (qZ _ _ h23) (by (try simp only [go_sem, h22, h24]) <;> exact wkl) (by rfl) (by rfl) ?_
        simp only [go_sem, h22, h24]
        (repeat refine sd ?_)
        refine hK _ _ fun nx => ?_; clear hK K; try clear kk
        refine zi ?_; refine nmx ?_
        obtain hR := Option.some.inj hh
        subst hR
        exact zy
      ·rw [if_neg h22] at hh
       replace h22 := Bool.eq_false_iff.mpr h22
       refine zb fun K kk hK => ?_
       simp only [go_sem, h22]
       (repeat refine sd ?_)
       refine hK _ _ fun nx => ?_; clear hK K; try clear kk
       refine zi ?_; refine nmx ?_
       obtain hR := Option.some.inj hh
       subst hR
       exact zy
     ·rw [if_neg h21] at hh
      replace h21 := Bool.eq_false_iff.mpr h21
      refine zh (by first | exact congrArg PV.bool h21 | rfl) ?_
      refine zx ?_; refine nmx ?_
      refine zb fun K kk hK => ?_
      simp only [go_sem]
      refine hK _ _ fun nx => ?_; clear hK K; try clear kk
      refine zi ?_; refine nmx ?_
      obtain hR := Option.some.inj hh
      subst hR
      exact zy
 ·intro i s h; exact h.elim
 ·intro s h; exact h.elim
theorem kT (v_1 : Int) (VO : qE) (R : (Int × qE)) (hh : wM v_1 VO = some R) : BD Tryd.prog 96 [.box 1000 0 0, .box 1001 0 0] [.var 31 [.int .i64 v_1], .var 123 [.list 1 (VO.path.map (PV.int .i64)), .str VO.in_.Kind, .str VO.in_.Text, .list 1 (VO.in_.Marks.map PV.str), .list 2 (VO.in_.zo.map zg.pv), .list 5 (VO.in_.Kids.map za.pv), .int .i64 VO.from_, .int .i64 VO.to_]] (.tup []) [.var 31 [.int .i64 R.1], .var 123 [.list 1 (R.2.path.map (PV.int .i64)), .str R.2.in_.Kind, .str R.2.in_.Text, .list 1 (R.2.in_.Marks.map PV.str), .list 2 (R.2.in_.zo.map zg.pv), .list 5 (R.2.in_.Kids.map za.pv), .int .i64 R.2.from_, .int .i64 R.2.to_]] := by
 rw [wM] at hh
 refine Yb rfl rfl rfl ?_
 refine zb fun K kk hK => ?_
 simp only [go_sem]
 refine hK _ _ fun nx => ?_; clear hK K; try clear kk
 by_cases h1 : (v_1 != (0 : Int)) = true
 ·rw [if_pos h1] at hh
  refine zn (by first | exact congrArg PV.bool h1 | rfl) ?_
  refine zu fun K kk hK => ?_
  simp only [go_sem]
  refine hK _ _ fun nx => ?_; clear hK K; try clear kk
  refine nmx ?_
  obtain hR := Option.some.inj hh
  subst hR
  refine YT ?_
  refine vo ?_ (by rfl) ?_
  ·simp only [go_sem, wJ, jU, kH, vH, Zd, List.map_cons, List.map_append, List.head?_cons, h1]
   all_goals exact wkw
  ·(try simp only [go_sem, h1]); (try simp only [List.length_append, List.map_append]); all_goals exact wkb
 ·rw [if_neg h1] at hh
  replace h1 := Bool.eq_false_iff.mpr h1
  refine zh (by first | exact congrArg PV.bool h1 | rfl) ?_
  refine zx ?_; refine nmx ?_
  obtain hR := Option.some.inj hh
  subst hR
  refine YT ?_
  refine vo ?_ (by rfl) ?_
  ·simp only [go_sem, wJ, jU, kH, vH, Zd, List.map_cons, List.map_append, List.head?_cons, h1]
   all_goals exact wkw
  ·(try simp only [go_sem, h1]); (try simp only [List.length_append, List.map_append]); all_goals exact wkb
theorem aaL (vB : (List Int)) (vU : (List Int)) (R : Bool) (hh : slices_Equal_int vB vU = some R) : PC Tryd.prog 98 [.list 1 (vB.map (PV.int .i64)), .list 1 (vU.map (PV.int .i64))] (.bool R) := by
 rw [slices_Equal_int] at hh
 refine XB rfl ?_
 refine zb fun K kk hK => ?_
 simp only [go_sem]
 refine hK _ _ fun nx => ?_; clear hK K; try clear kk
 refine zm ?_
 refine zb fun K kk hK => ?_
 simp only [go_sem]
 refine hK _ _ fun nx => ?_; clear hK K; try clear kk
 by_cases h1 : ((vB.length : Int) != (vU.length : Int)) = true
 ·rw [if_pos h1] at hh
  refine zn (by first | exact congrArg PV.bool h1 | rfl) ?_
  refine zb fun K kk hK => ?_
  simp only [go_sem]
  refine hK _ _ fun nx => ?_; clear hK K; try clear kk
  refine zi ?_; refine nmx ?_
  obtain hR := Option.some.inj hh
  subst hR
  exact zy
 ·rw [if_neg h1] at hh
  replace h1 := Bool.eq_false_iff.mpr h1
  refine zh (by first | exact congrArg PV.bool h1 | rfl) ?_
  refine zx ?_; refine nmx ?_
  refine zm ?_
  refine zb fun K kk hK => ?_
  simp only [go_sem]
  refine hK _ _ fun nx => ?_; clear hK K; try clear kk
  obtain ⟨e0, f0, hh⟩ := zf hh
  obtain ⟨hlen0, f0⟩ := z8 f0
  refine qz (kv (fun s => .inr () = e0 ∧ ∃ (WC : Int) (Kq : Bool) (nx : Nat), s = ⟨[(0, .list 1 (vB.map (PV.int .i64))), (1, .list 1 (vU.map (PV.int .i64))), (12, .int .i64 (vB.length : Int)), (13, .int .i64 WC), (14, .bool Kq)], [], nx⟩))
   (fun i s => False)
   (fun s => ∃ wZ, .inl wZ = e0 ∧ zS Tryd.prog [.tmp 4] (.bool wZ) [] .ret s) ?_ ?_ ?_ ?_
  ·refine zC ?_
   refine qh fun I hI => ?_
   have key : ∀ (suf pre : List Int) (v_5 : Int), vB = pre ++ suf → v_5 = (pre.length : Int) → wR vU suf v_5 = some e0 → ∀ (nx : Nat), I ⟨[(0, .list 1 (vB.map (PV.int .i64))), (1, .list 1 (vU.map (PV.int .i64))), (12, .int .i64 (vB.length : Int)), (13, .int .i64 v_5)], [], nx⟩ := by
    intro suf
    induction suf with
    | nil =>
     intro pre v_5 hsplit hidx hh nx
     rw [wR] at hh
     refine hI _ ?_
     have h10 := walk_nil hsplit hidx
     refine zb fun K kk hK => ?_
     simp only [go_sem]
     refine hK _ _ fun nx => ?_; clear hK K; try clear kk
     refine zm ?_
     refine zh (by first | exact congrArg PV.bool h10 | rfl) ?_
     refine zZ ?_; refine nmx ?_
     refine kN ?_
     refine zJ ?_
     refine ⟨(Option.some.inj hh), ?_⟩
     first | exact ⟨_, _, _, rfl⟩ | (simp only [pvE, lsE, zq]; exact ⟨_, _, _, rfl⟩) | (simp only [pvE, lsE, zq, h1, h10]; exact ⟨_, _, _, rfl⟩)
    | cons y_8 suf ih =>
     intro pre v_5 hsplit hidx hh nx
     rw [wR] at hh
     refine hI _ ?_
     obtain ⟨hl0a, hl0b, hl0d, hl0w, h10⟩ := qI (f := (PV.int .i64)) hsplit hidx hlen0
     refine zb fun K kk hK => ?_
     simp only [go_sem]
     refine hK _ _ fun nx => ?_; clear hK K; try clear kk
     refine zm ?_
     refine zn (by first | exact congrArg PV.bool h10 | rfl) ?_
     refine zx ?_; refine nmx ?_
     refine zm ?_
     refine zC ?_
     refine zb fun K kk hK => ?_
     simp only [go_sem, hl0a, hl0b, hl0d, hl0w]
     refine hK _ _ fun nx => ?_; clear hK K; try clear kk
     obtain ⟨x_9, h11, hh⟩ := zf hh
     obtain ⟨h11a, h11b, h11c⟩ := rd_some h11
     have h11d := vz (f := (PV.int .i64)) h11c
     have h11f := wX (f := (PV.int .i64)) h11c
     try simp only [Int.toNat_natCast, Int.reduceToNat] at h11d h11f
     refine zb fun K kk hK => ?_
     simp only [go_sem, h11a, h11b, h11d, h11f.1, h11f.2, hl0a, hl0b, hl0d, hl0w]
     (repeat refine sd ?_)
     refine hK _ _ fun nx => ?_; clear hK K; try clear kk
     by_cases h12 : (y_8 != x_9) = true
     ·rw [if_pos h12] at hh
      refine zn (by first | exact congrArg PV.bool h12 | rfl) ?_
      refine zb fun K kk hK => ?_
      simp only [go_sem, hl0a, hl0b, hl0d, hl0w]
      refine hK _ _ fun nx => ?_; clear hK K; try clear kk
      refine zi ?_; refine nmx ?_
      refine QD ⟨_, (Option.some.inj hh), ?_⟩
      exact zy
     ·rw [if_neg h12] at hh
      replace h12 := Bool.eq_false_iff.mpr h12
      refine zh (by first | exact congrArg PV.bool h12 | rfl) ?_
      refine zx ?_; refine nmx ?_
      refine zu fun K kk hK => ?_
      simp only [go_sem, hl0a, hl0b, hl0d, hl0w]
      refine hK _ _ fun nx => ?_; clear hK K; try clear kk
      refine nmx ?_
      have ih' := ih (pre ++ [y_8]) (v_5 + 1) (by rw [hsplit]; simp) (by simp [hidx]) hh nx
      refine zJ ?_
      first | exact ih' | (simp only [pvE, lsE, zq] at ih' ⊢; exact ih') | (simp only [pvE, lsE, zq, h1, h10, h12] at ih' ⊢; exact ih')
   exact key vB [] _ rfl rfl f0 _
  ·rintro s ⟨t, hless, rfl, WC, Kq, nx, rfl⟩
   try dsimp only at hh
   refine nmy ?_
   first | (refine wm hless ?_; try refine kz ?_) | refine qH hless ?_ | refine qG hless ?_
   refine zb fun K kk hK => ?_
   simp only [go_sem]
   refine hK _ _ fun nx => ?_; clear hK K; try clear kk
   refine zi ?_; refine nmx ?_
   obtain hR := Option.some.inj hh
   subst hR
   exact zy
  ·intro i s h; exact h.elim
  ·rintro s ⟨wZ, rfl, hb⟩
   try dsimp only at hh
   obtain hR := Option.some.inj hh
   subst hR
   refine nmx ?_
   exact hb
theorem aiq (n_1 : za) (wz : (List Int)) (R : (Int × Int)) (hh : WW n_1 wz = some R) : PC Tryd.prog 99 [.agg [.str n_1.Kind, .str n_1.Text, .list 1 (n_1.Marks.map PV.str), .list 2 (n_1.zo.map zg.pv), .list 5 (n_1.Kids.map za.pv)], .list 1 (wz.map (PV.int .i64))] (.tup [.int .i64 R.1, .int .i64 R.2]) := by
 rw [WW] at hh
 refine ac6 rfl ?_
 refine zb fun K kk hK => ?_
 simp only [go_sem]
 refine hK _ _ fun nx => ?_; clear hK K; try clear kk
 refine zm ?_
 obtain ⟨⟨r_3, r_4⟩, h1, hh⟩ := zf hh
 dsimp only at hh
 refine zb fun K kk hK => ?_
 simp only [go_sem]
 refine ze (yH _ _ _ h1) (by (try simp only [go_sem]) <;> exact wkl) (by rfl) (by rfl) ?_
 simp only [go_sem]
 refine hK _ _ fun nx => ?_; clear hK K; try clear kk
 refine zb fun K kk hK => ?_
 simp only [go_sem]
 refine hK _ _ fun nx => ?_; clear hK K; try clear kk
 by_cases h2 : (r_4 != (0 : Int)) = true
 ·rw [if_pos h2] at hh
  refine zn (by first | exact congrArg PV.bool h2 | rfl) ?_
  refine zb fun K kk hK => ?_
  simp only [go_sem]
  refine hK _ _ fun nx => ?_; clear hK K; try clear kk
  refine zi ?_; refine nmx ?_
  obtain hR := Option.some.inj hh
  subst hR
  exact zy
 ·rw [if_neg h2] at hh
  replace h2 := Bool.eq_false_iff.mpr h2
  refine zh (by first | exact congrArg PV.bool h2 | rfl) ?_
  refine zx ?_; refine nmx ?_
  refine zb fun K kk hK => ?_
  simp only [go_sem]
  refine hK _ _ fun nx => ?_; clear hK K; try clear kk
  refine zm ?_
  refine zb fun K kk hK => ?_
  simp only [go_sem]
  refine hK _ _ fun nx => ?_; clear hK K; try clear kk
  obtain ⟨e0, f0, hh⟩ := zf hh
  obtain ⟨hlen0, f0⟩ := z8 f0
  refine qz (kv (fun s => ∃ am4, am4 = e0 ∧ ∃ (awi : Int) (asK : Bool) (aqe : za) (nx : Nat) (g2 : Nat), s = ⟨[(2, .box 2 g2 0), (8, .int .i64 am4), (20, .list 1 (wz.map (PV.int .i64))), (21, .int .i64 (wz.length : Int)), (22, .int .i64 awi), (23, .bool asK)], [(2, g2, .var 28 [.str aqe.Kind, .str aqe.Text, .list 1 (aqe.Marks.map PV.str), .list 2 (aqe.zo.map zg.pv), .list 5 (aqe.Kids.map za.pv)])], nx⟩))
   (fun i s => False)
   (fun s => False) ?_ ?_ ?_ ?_
  ·refine zC ?_
   refine qh fun I hI => ?_
   have key : ∀ (suf pre : List Int) (WC : Int) (afD : Int) (n_9 : za), wz = pre ++ suf → WC = (pre.length : Int) → jJ suf WC afD n_9 = some e0 → ∀ (nx : Nat) (g2 : Nat), I ⟨[(2, .box 2 g2 0), (8, .int .i64 afD), (20, .list 1 (wz.map (PV.int .i64))), (21, .int .i64 (wz.length : Int)), (22, .int .i64 WC)], [(2, g2, .var 28 [.str n_9.Kind, .str n_9.Text, .list 1 (n_9.Marks.map PV.str), .list 2 (n_9.zo.map zg.pv), .list 5 (n_9.Kids.map za.pv)])], nx⟩ := by
    intro suf
    induction suf with
    | nil =>
     intro pre WC afD n_9 hsplit hidx hh nx g2
     rw [jJ] at hh
     refine hI _ ?_
     have h13 := walk_nil hsplit hidx
     refine zb fun K kk hK => ?_
     simp only [go_sem]
     refine hK _ _ fun nx => ?_; clear hK K; try clear kk
     refine zm ?_
     refine zh (by first | exact congrArg PV.bool h13 | rfl) ?_
     refine zZ ?_; refine nmx ?_
     refine kN ?_
     refine zJ ?_
     refine ⟨_, (Option.some.inj hh), ?_⟩
     first | exact ⟨_, _, _, _, _, rfl⟩ | (simp only [pvE, lsE, zq]; exact ⟨_, _, _, _, _, rfl⟩) | (simp only [pvE, lsE, zq, h13, h2]; exact ⟨_, _, _, _, _, rfl⟩)
    | cons atQ suf ih =>
     intro pre WC afD n_9 hsplit hidx hh nx g2
     rw [jJ] at hh
     refine hI _ ?_
     obtain ⟨hl0a, hl0b, hl0d, hl0w, h13⟩ := qI (f := (PV.int .i64)) hsplit hidx hlen0
     refine zb fun K kk hK => ?_
     simp only [go_sem]
     refine hK _ _ fun nx => ?_; clear hK K; try clear kk
     refine zm ?_
     refine zn (by first | exact congrArg PV.bool h13 | rfl) ?_
     refine zx ?_; refine nmx ?_
     refine zm ?_
     refine zC ?_
     refine zb fun K kk hK => ?_
     simp only [go_sem, hl0a, hl0b, hl0d, hl0w]
     refine hK _ _ fun nx => ?_; clear hK K; try clear kk
     obtain ⟨awT, h14, hh⟩ := zf hh
     obtain ⟨h14a, h14c⟩ := WS h14
     have h14g := aa9 h14a
     have h14d := aaw (f := za.pv) h14c
     try simp only [Int.toNat_natCast, Int.reduceToNat, List.map_cons, List.map_nil, pvE] at h14d
     obtain ⟨amx, h15, hh⟩ := zf hh
     refine zb fun K kk hK => ?_
     simp only [go_sem, h14a.1, h14a.2.1, h14a.2.2, h14d, h14g, hl0a, hl0b, hl0d, hl0w]
     (repeat refine sd ?_)
     refine ze (xw _ _ h15) (by (try simp only [go_sem, h14a.1, h14a.2.1, h14a.2.2, h14d, h14g, hl0a, hl0b, hl0d, hl0w]) <;> exact wkl) (by rfl) (by rfl) ?_
     simp only [go_sem, h14a.1, h14a.2.1, h14a.2.2, h14d, h14g, hl0a, hl0b, hl0d, hl0w]
     (repeat refine sd ?_)
     refine hK _ _ fun nx => ?_; clear hK K; try clear kk
     obtain ⟨awV, h16, hh⟩ := zf hh
     obtain ⟨h16a, h16b, h16c⟩ := rd_some h16
     have h16d := vz (f := za.pv) h16c
     have h16f := wX (f := za.pv) h16c
     try simp only [Int.toNat_natCast, Int.reduceToNat] at h16d h16f
     refine zu fun K kk hK => ?_
     simp only [go_sem, h16a, h16b, h16d, h16f.1, h16f.2, hl0a, hl0b, hl0d, hl0w]
     (repeat refine sd ?_)
     refine hK _ _ fun nx => ?_; clear hK K; try clear kk
     refine nmx ?_
     refine zu fun K kk hK => ?_
     simp only [go_sem, hl0a, hl0b, hl0d, hl0w]
     refine hK _ _ fun nx => ?_; clear hK K; try clear kk
     refine nmx ?_
     have ih' := ih (pre ++ [atQ]) (WC + 1) _ _ (by rw [hsplit]; simp) (by simp [hidx]) hh nx
     refine zJ ?_
     first | exact ih' _ | (simp only [pvE, lsE, zq] at ih' ⊢; exact ih' _) | (simp only [pvE, lsE, zq, h13, h2] at ih' ⊢; exact ih' _)
   exact key wz [] _ _ _ rfl rfl f0 _ _
  ·rintro s ⟨t, hless, am4, rfl, awi, asK, aqe, nx, g2, rfl⟩
   try dsimp only at hh
   refine nmy ?_
   first | (refine wm hless ?_; try refine kz ?_) | refine qH hless ?_ | refine qG hless ?_
   refine zb fun K kk hK => ?_
   simp only [go_sem]
   refine hK _ _ fun nx => ?_; clear hK K; try clear kk
   refine zi ?_; refine nmx ?_
   obtain hR := Option.some.inj hh
   subst hR
   exact zy
  ·intro i s h; exact h.elim
  ·intro s h; exact h.elim
theorem YC (n_1 : za) (ym : Int) (Yi : Int) (R : (qE × Int)) (hh : xO n_1 ym Yi = some R) : PC Tryd.prog 72 [.agg [.str n_1.Kind, .str n_1.Text, .list 1 (n_1.Marks.map PV.str), .list 2 (n_1.zo.map zg.pv), .list 5 (n_1.Kids.map za.pv)], .int .i64 ym, .int .i64 Yi] (.tup [.agg [.list 1 (R.1.path.map (PV.int .i64)), .str R.1.in_.Kind, .str R.1.in_.Text, .list 1 (R.1.in_.Marks.map PV.str), .list 2 (R.1.in_.zo.map zg.pv), .list 5 (R.1.in_.Kids.map za.pv), .int .i64 R.1.from_, .int .i64 R.1.to_], .int .i64 R.2]) := by
 rw [xO] at hh
 refine adU rfl ?_
 refine zu fun K kk hK => ?_
 simp only [go_sem]
 refine hK _ _ fun nx => ?_; clear hK K; try clear kk
 refine nmx ?_
 refine avB 7 6 _ _ _ _ _ _ [1, 2, 3] [3] ⟨rfl, rfl, rfl, rfl, by decide, by decide, by decide, rfl, rfl, rfl, rfl⟩ rfl ?_
 refine avw (t := ⟨[(7, .box 1000 0 0), (6, .box 1001 0 0), (1, .int .i64 ym), (2, .int .i64 Yi), (3, .box 3 _ 0)], [(1000, 0, .var 31 [.int .i64 (0 : Int)]), (1001, 0, .var 123 [.list 1 ([].map (PV.int .i64)), .str ([] : Str), .str ([] : Str), .list 1 ([].map PV.str), .list 2 ([].map zg.pv), .list 5 ([].map za.pv), .int .i64 (0 : Int), .int .i64 (0 : Int)]), (3, _, .var 28 [.str n_1.Kind, .str n_1.Text, .list 1 (n_1.Marks.map PV.str), .list 2 (n_1.zo.map zg.pv), .list 5 (n_1.Kids.map za.pv)])], nx⟩) ?_ (by rfl)
 refine zm ?_
 by_cases h1 : (n_1.Kind == ([116, 101, 120, 116] : Str)) = true
 ·rw [if_pos h1] at hh
  refine zb fun K kk hK => ?_
  simp only [go_sem, h1]
  (repeat refine sd ?_)
  refine hK _ _ fun nx => ?_; clear hK K; try clear kk
  refine zn rfl ?_
  refine zb fun K kk hK => ?_
  simp only [go_sem]
  refine hK _ _ fun nx => ?_; clear hK K; try clear kk
  refine zi ?_; refine nmx ?_
  obtain ⟨⟨v_4, asY⟩, h2, hh⟩ := zf hh
  dsimp only at hh
  obtain hR := Option.some.inj hh
  subst hR
  refine Wt (kT _ _ _ h2) (by (try simp only [go_sem, h1]) <;> exact wkb) (by rfl) ?_ (by rfl)
  simp only [St.VC, dKs, go_sem, h1, wJ, jU, kH, vH, Zd, List.map_cons, List.map_append, List.head?_cons]
  all_goals exact wkw
 ·rw [if_neg h1] at hh
  replace h1 := Bool.eq_false_iff.mpr h1
  obtain ⟨alE, h3, hh⟩ := zf hh
  refine zb fun K kk hK => ?_
  simp only [go_sem, h1]
  (repeat refine sd ?_)
  refine ze (WJ _ _ h3) (by (try simp only [go_sem, h1]) <;> exact wkl) (by rfl) (by rfl) ?_
  simp only [go_sem, h1]
  (repeat refine sd ?_)
  refine hK _ _ fun nx => ?_; clear hK K; try clear kk
  by_cases h4 : (!alE) = true
  ·rw [if_pos h4] at hh
   refine zn (by first | exact congrArg PV.bool h4 | rfl) ?_
   refine zb fun K kk hK => ?_
   simp only [go_sem]
   refine hK _ _ fun nx => ?_; clear hK K; try clear kk
   refine zi ?_; refine nmx ?_
   obtain ⟨⟨v_7, arB⟩, h5, hh⟩ := zf hh
   dsimp only at hh
   obtain hR := Option.some.inj hh
   subst hR
   refine Wt (kT _ _ _ h5) (by (try simp only [go_sem, h1, h4]) <;> exact wkb) (by rfl) ?_ (by rfl)
   simp only [St.VC, dKs, go_sem, h1, h4, wJ, jU, kH, vH, Zd, List.map_cons, List.map_append, List.head?_cons]
   all_goals exact wkw
  ·rw [if_neg h4] at hh
   replace h4 := Bool.eq_false_iff.mpr h4
   refine zh (by first | exact congrArg PV.bool h4 | rfl) ?_
   refine zx ?_; refine nmx ?_
   obtain ⟨⟨r_9, QU⟩, h6, hh⟩ := zf hh
   dsimp only at hh
   refine zb fun K kk hK => ?_
   simp only [go_sem]
   refine ze (Wn _ _ _ h6) (by (try simp only [go_sem]) <;> exact wkl) (by rfl) (by rfl) ?_
   simp only [go_sem]
   refine hK _ _ fun nx => ?_; clear hK K; try clear kk
   refine zm ?_
   refine zb fun K kk hK => ?_
   simp only [go_sem]
   refine hK _ _ fun nx => ?_; clear hK K; try clear kk
   by_cases h7 : (QU != (0 : Int)) = true
   ·rw [if_pos h7] at hh
    refine zn (by first | exact congrArg PV.bool h7 | rfl) ?_
    refine zb fun K kk hK => ?_
    simp only [go_sem]
    refine hK _ _ fun nx => ?_; clear hK K; try clear kk
    refine zi ?_; refine nmx ?_
    obtain ⟨⟨WC, apG⟩, h8, hh⟩ := zf hh
    dsimp only at hh
    obtain hR := Option.some.inj hh
    subst hR
    refine Wt (kT _ _ _ h8) (by (try simp only [go_sem, h1, h4, h7]) <;> exact wkb) (by rfl) ?_ (by rfl)
    simp only [St.VC, dKs, go_sem, h1, h4, h7, wJ, jU, kH, vH, Zd, List.map_cons, List.map_append, List.head?_cons]
    all_goals exact wkw
   ·rw [if_neg h7] at hh
    replace h7 := Bool.eq_false_iff.mpr h7
    refine zh (by first | exact congrArg PV.bool h7 | rfl) ?_
    refine zx ?_; refine nmx ?_
    obtain ⟨⟨JL, aeI⟩, h9, hh⟩ := zf hh
    dsimp only at hh
    refine zb fun K kk hK => ?_
    simp only [go_sem]
    refine ze (Wn _ _ _ h9) (by (try simp only [go_sem]) <;> exact wkl) (by rfl) (by rfl) ?_
    simp only [go_sem]
    refine hK _ _ fun nx => ?_; clear hK K; try clear kk
    refine zm ?_
    refine zC ?_
    refine zb fun K kk hK => ?_
    simp only [go_sem]
    refine hK _ _ fun nx => ?_; clear hK K; try clear kk
    by_cases h10 : (aeI != (0 : Int)) = true
    ·rw [if_pos h10] at hh
     refine zn (by first | exact congrArg PV.bool h10 | rfl) ?_
     refine zb fun K kk hK => ?_
     simp only [go_sem]
     refine hK _ _ fun nx => ?_; clear hK K; try clear kk
     refine zi ?_; refine nmx ?_
     obtain ⟨⟨aiB, apx⟩, h11, hh⟩ := zf hh
     dsimp only at hh
     obtain hR := Option.some.inj hh
     subst hR
     refine Wt (kT _ _ _ h11) (by (try simp only [go_sem, h1, h10, h4, h7]) <;> exact wkb) (by rfl) ?_ (by rfl)
     simp only [St.VC, dKs, go_sem, h1, h10, h4, h7, wJ, jU, kH, vH, Zd, List.map_cons, List.map_append, List.head?_cons]
     all_goals exact wkw
    ·rw [if_neg h10] at hh
     replace h10 := Bool.eq_false_iff.mpr h10
     refine zh (by first | exact congrArg PV.bool h10 | rfl) ?_
     refine zb fun K kk hK => ?_
     simp only [go_sem]
     refine hK _ _ fun nx => ?_; clear hK K; try clear kk
     by_cases h12 : (decide (Yi < ym)) = true
     ·rw [if_pos h12] at hh
      refine zn (by first | exact congrArg PV.bool h12 | rfl) ?_
      refine zb fun K kk hK => ?_
      simp only [go_sem]
      refine hK _ _ fun nx => ?_; clear hK K; try clear kk
      refine zi ?_; refine nmx ?_
      obtain ⟨⟨amt, apT⟩, h13, hh⟩ := zf hh
      dsimp only at hh
      obtain hR := Option.some.inj hh
      subst hR
      refine Wt (kT _ _ _ h13) (by (try simp only [go_sem, h1, h10, h12, h4, h7]) <;> exact wkb) (by rfl) ?_ (by rfl)
      simp only [St.VC, dKs, go_sem, h1, h10, h12, h4, h7, wJ, jU, kH, vH, Zd, List.map_cons, List.map_append, List.head?_cons]
      all_goals exact wkw
     ·rw [if_neg h12] at hh
      replace h12 := Bool.eq_false_iff.mpr h12
      refine zh (by first | exact congrArg PV.bool h12 | rfl) ?_
      obtain ⟨an2, h14, hh⟩ := zf hh
      refine zb fun K kk hK => ?_
      simp only [go_sem]
      refine ze (aaL _ _ _ h14) (by (try simp only [go_sem]) <;> exact wkl) (by rfl) (by rfl) ?_
      simp only [go_sem]
      refine hK _ _ fun nx => ?_; clear hK K; try clear kk
      by_cases h15 : (!an2) = true
      ·rw [if_pos h15] at hh
       refine zn (by first | exact congrArg PV.bool h15 | rfl) ?_
       refine zb fun K kk hK => ?_
       simp only [go_sem]
       refine hK _ _ fun nx => ?_; clear hK K; try clear kk
       refine zi ?_; refine nmx ?_
       obtain ⟨⟨asX, ao2⟩, h16, hh⟩ := zf hh
       dsimp only at hh
       obtain hR := Option.some.inj hh
       subst hR
       refine Wt (kT _ _ _ h16) (by (try simp only [go_sem, h1, h10, h12, h15, h4, h7]) <;> exact wkb) (by rfl) ?_ (by rfl)
       simp only [St.VC, dKs, go_sem, h1, h10, h12, h15, h4, h7, wJ, jU, kH, vH, Zd, List.map_cons, List.map_append, List.head?_cons]
       all_goals exact wkw
      ·rw [if_neg h15] at hh
       replace h15 := Bool.eq_false_iff.mpr h15
       refine zh (by first | exact congrArg PV.bool h15 | rfl) ?_
       refine zx ?_; refine nmx ?_
       obtain ⟨⟨avG, axD⟩, h17, hh⟩ := zf hh
       dsimp only at hh
       refine zb fun K kk hK => ?_
       simp only [go_sem]
       refine ze (aiq _ _ _ h17) (by (try simp only [go_sem]) <;> exact wkl) (by rfl) (by rfl) ?_
       simp only [go_sem]
       refine hK _ _ fun nx => ?_; clear hK K; try clear kk
       obtain ⟨⟨awe, awh⟩, h18, hh⟩ := zf hh
       dsimp only at hh
       refine zb fun K kk hK => ?_
       simp only [go_sem]
       refine ze (yH _ _ _ h18) (by (try simp only [go_sem]) <;> exact wkl) (by rfl) (by rfl) ?_
       simp only [go_sem]
       refine hK _ _ fun nx => ?_; clear hK K; try clear kk
       refine zb fun K kk hK => ?_
       simp only [go_sem]
       refine hK _ _ fun nx => ?_; clear hK K; try clear kk
       refine zi ?_; refine nmx ?_
       obtain ⟨⟨Y7, apB⟩, h19, hh⟩ := zf hh
       dsimp only at hh
       obtain hR := Option.some.inj hh
       subst hR
       refine Wt (kT _ _ _ h19) (by (try simp only [go_sem, h1, h10, h12, h15, h4, h7]) <;> exact wkb) (by rfl) ?_ (by rfl)
       simp only [St.VC, dKs, go_sem, h1, h10, h12, h15, h4, h7, wJ, jU, kH, vH, Zd, List.map_cons, List.map_append, List.head?_cons]
       all_goals exact wkw
end Go.Proofs.YtclohbgnaopjfaaDoor
