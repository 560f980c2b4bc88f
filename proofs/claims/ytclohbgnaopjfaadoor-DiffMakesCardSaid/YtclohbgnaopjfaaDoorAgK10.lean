/- Texts of the proof of diffMakesCard -/
import Derived.Test.YtclohbgnaopjfaaDoorAgC
import Derived.Test.YtclohbgnaopjfaaDoorAgF
import Derived.Test.YtclohbgnaopjfaaDoorAgK0
import Derived.Test.YtclohbgnaopjfaaDoorAgK2
import Derived.Test.YtclohbgnaopjfaaDoorAgK3
import Derived.Test.YtclohbgnaopjfaaDoorAgK5
import Derived.Test.YtclohbgnaopjfaaDoorAgK9
namespace Go.Proofs.YtclohbgnaopjfaaDoor
set_option linter.unusedSimpArgs false
set_option linter.unusedVariables false
open Go
set_option maxRecDepth 100000
theorem Xw (n_1 : za) (k_2 : (List Int)) (R : za) (hh : vT n_1 k_2 = some R) : PC Tryd.prog 30 [.agg [.str n_1.Kind, .str n_1.Text, .list 1 (n_1.Marks.map PV.str), .list 2 (n_1.zh.map ze.pv), .list 5 (n_1.Kids.map za.pv)], .list 1 (k_2.map (PV.int .i64))] (.agg [.str R.Kind, .str R.Text, .list 1 (R.Marks.map PV.str), .list 2 (R.zh.map ze.pv), .list 5 (R.Kids.map za.pv)]) := by
 rw [vT] at hh
 refine Ja rfl ?_
 refine zb fun K kk hK => ?_
 simp only [go_sem]
 refine hK _ _ fun nx => ?_; clear hK K; try clear kk
 refine zm ?_
 refine zb fun K kk hK => ?_
 simp only [go_sem]
 refine hK _ _ fun nx => ?_; clear hK K; try clear kk
 obtain ⟨e0, f0, hh⟩ := zf hh
 refine qD (kE (fun s => ∃ alE, alE = e0 ∧ ∃ (axt : Int) (auO : Bool) (nx : Nat) (g2 : Nat) (g4 : Nat), s = ⟨[(1, .list 1 (k_2.map (PV.int .i64))), (2, .box 2 g2 0), (4, .box 4 g4 0), (5, .int .i64 axt), (20, .bool auO)], [(2, g2, .var 28 [.str alE.Kind, .str alE.Text, .list 1 (alE.Marks.map PV.str), .list 2 (alE.zh.map ze.pv), .list 5 (alE.Kids.map za.pv)]), (4, g4, .var 28 [.str ([] : Str), .str ([] : Str), .list 1 ([].map PV.str), .list 2 ([].map ze.pv), .list 5 ([].map za.pv)])], nx⟩))
  (fun i s => False)
  (fun s => False) ?_ ?_ ?_ ?_
 ·refine zC ?_
  refine qg fun I hI => ?_
  obtain ⟨k, f0⟩ := jA f0
  have key : ∀ (k : Nat) (acE : Int) (yz : za), zR k_2 k acE yz = some e0 → ∀ (nx : Nat) (g2 : Nat) (g4 : Nat), I ⟨[(1, .list 1 (k_2.map (PV.int .i64))), (2, .box 2 g2 0), (4, .box 4 g4 0), (5, .int .i64 acE)], [(2, g2, .var 28 [.str yz.Kind, .str yz.Text, .list 1 (yz.Marks.map PV.str), .list 2 (yz.zh.map ze.pv), .list 5 (yz.Kids.map za.pv)]), (4, g4, .var 28 [.str ([] : Str), .str ([] : Str), .list 1 ([].map PV.str), .list 2 ([].map ze.pv), .list 5 ([].map za.pv)])], nx⟩ := by
   intro k
   induction k with
   | zero => intro acE yz hh; rw [zR] at hh; cases hh
   | succ k ih =>
    intro acE yz hh nx g2 g4
    rw [zR] at hh
    refine hI _ ?_
    refine zm ?_
    by_cases h16 : (decide ((w64 (acE + (2 : Int))) < (k_2.length : Int))) = true
    ·rw [if_pos h16] at hh
     refine zb fun K kk hK => ?_
     simp only [go_sem, h16, of_decide_eq_true h16]
     (repeat refine sd ?_)
     refine hK _ _ fun nx => ?_; clear hK K; try clear kk
     by_cases h17 : (decide (acE < (9 : Int))) = true
     ·rw [if_pos h17] at hh
      refine zn (by first | exact congrArg PV.bool h17 | rfl) ?_
      refine zy ?_; refine nmx ?_
      refine zm ?_
      refine zC ?_
      obtain ⟨KF, h18, hh⟩ := zf hh
      refine zb fun K kk hK => ?_
      simp only [go_sem]
      refine zg (jM _ _ h18) (by (try simp only [go_sem]) <;> exact wkl) (by rfl) (by rfl) ?_
      simp only [go_sem]
      refine hK _ _ fun nx => ?_; clear hK K; try clear kk
      obtain ⟨ayl, h19, hh⟩ := zf hh
      obtain ⟨h19a, h19b, h19c⟩ := rd_some h19
      have h19d := wR (f := (PV.int .i64)) h19c
      have h19f := qM (f := (PV.int .i64)) h19c
      try simp only [Int.toNat_natCast, Int.reduceToNat] at h19d h19f
      obtain ⟨QX, h20, hh⟩ := zf hh
      refine zb fun K kk hK => ?_
      simp only [go_sem, h19a, h19b, h19d, h19f.1, h19f.2]
      (repeat refine sd ?_)
      refine zg (wm _ _ _ h20) (by (try simp only [go_sem, h19a, h19b, h19d, h19f.1, h19f.2]) <;> exact wkl) (by rfl) (by rfl) ?_
      simp only [go_sem, h19a, h19b, h19d, h19f.1, h19f.2]
      (repeat refine sd ?_)
      refine hK _ _ fun nx => ?_; clear hK K; try clear kk
      obtain ⟨atF, h21, hh⟩ := zf hh
      obtain ⟨h21a, h21b, h21c⟩ := rd_some h21
      have h21d := wR (f := (PV.int .i64)) h21c
      have h21f := qM (f := (PV.int .i64)) h21c
      try simp only [Int.toNat_natCast, Int.reduceToNat] at h21d h21f
      obtain ⟨XC, h22, hh⟩ := zf hh
      refine zb fun K kk hK => ?_
      simp only [go_sem, h21a, h21b, h21d, h21f.1, h21f.2]
      (repeat refine sd ?_)
      refine zg (wm _ _ _ h22) (by (try simp only [go_sem, h21a, h21b, h21d, h21f.1, h21f.2]) <;> exact wkl) (by rfl) (by rfl) ?_
      simp only [go_sem, h21a, h21b, h21d, h21f.1, h21f.2]
      (repeat refine sd ?_)
      refine hK _ _ fun nx => ?_; clear hK K; try clear kk
      obtain ⟨awU, h23, hh⟩ := zf hh
      obtain ⟨h23a, h23b, h23c⟩ := rd_some h23
      have h23d := wR (f := (PV.int .i64)) h23c
      have h23f := qM (f := (PV.int .i64)) h23c
      try simp only [Int.toNat_natCast, Int.reduceToNat] at h23d h23f
      obtain ⟨atp, h24, hh⟩ := zf hh
      refine zb fun K kk hK => ?_
      simp only [go_sem, h23a, h23b, h23d, h23f.1, h23f.2]
      (repeat refine sd ?_)
      refine zg (Zt _ _ h24) (by (try simp only [go_sem, h23a, h23b, h23d, h23f.1, h23f.2]) <;> exact wkl) (by rfl) (by rfl) ?_
      simp only [go_sem, h23a, h23b, h23d, h23f.1, h23f.2]
      (repeat refine sd ?_)
      refine hK _ _ fun nx => ?_; clear hK K; try clear kk
      refine zm ?_
      obtain ⟨e2, f2, hh⟩ := zf hh
      refine ZX (fun s => ∃ afv, afv = e2 ∧ ∃ (nx : Nat) (g2 : Nat) (g4 : Nat) (g9 : Nat), s = ⟨[(1, .list 1 (k_2.map (PV.int .i64))), (2, .box 2 g2 0), (4, .box 4 g4 0), (5, .int .i64 acE), (9, .box 9 g9 0)], [(2, g2, .var 28 [.str yz.Kind, .str yz.Text, .list 1 (yz.Marks.map PV.str), .list 2 (yz.zh.map ze.pv), .list 5 (yz.Kids.map za.pv)]), (4, g4, .var 28 [.str ([] : Str), .str ([] : Str), .list 1 ([].map PV.str), .list 2 ([].map ze.pv), .list 5 ([].map za.pv)]), (9, g9, .var 39 [.int .u8 afv.Kind, .int .i64 afv.From, .int .i64 afv.To, .list 5 (afv.wO.map za.pv), .str afv.Name, .str afv.Value])], nx⟩)
       (fun i s => False)
       (fun s => False) ?_ ?_ ?_ ?_
      ·have hh := f2
       obtain ⟨QY, h25, hh⟩ := zf hh
       refine zb fun K kk hK => ?_
       simp only [go_sem, h23a, h23b, h23d, h23f.1, h23f.2]
       (repeat refine sd ?_)
       refine zg (wm _ _ _ h25) (by (try simp only [go_sem, h23a, h23b, h23d, h23f.1, h23f.2]) <;> exact wkl) (by rfl) (by rfl) ?_
       simp only [go_sem, h23a, h23b, h23d, h23f.1, h23f.2]
       (repeat refine sd ?_)
       refine hK _ _ fun nx => ?_; clear hK K; try clear kk
       refine zC ?_
       refine zb fun K kk hK => ?_
       simp only [go_sem]
       refine hK _ _ fun nx => ?_; clear hK K; try clear kk
       by_cases h26 : (QY == (0 : Int)) = true
       ·rw [if_pos h26] at hh
        refine zn (by first | exact congrArg PV.bool h26 | rfl) ?_
        refine zq fun K kk hK => ?_
        simp only [go_sem]
        refine hK _ _ fun nx => ?_; clear hK K; try clear kk
        refine nmx ?_
        refine wJ ?_
        refine zG ?_
        refine ⟨_, (Option.some.inj hh), ?_⟩
        first | exact ⟨_, _, _, _, rfl⟩ | (simp only [pvE, lsE, zo]; exact ⟨_, _, _, _, rfl⟩) | (simp only [pvE, lsE, zo, h16, h17, h26]; exact ⟨_, _, _, _, rfl⟩)
       ·rw [if_neg h26] at hh
        replace h26 := Bool.eq_false_iff.mpr h26
        refine zi (by first | exact congrArg PV.bool h26 | rfl) ?_
        refine zb fun K kk hK => ?_
        simp only [go_sem]
        refine hK _ _ fun nx => ?_; clear hK K; try clear kk
        by_cases h27 : (QY == (1 : Int)) = true
        ·rw [if_pos h27] at hh
         refine zn (by first | exact congrArg PV.bool h27 | rfl) ?_
         refine zq fun K kk hK => ?_
         simp only [go_sem]
         refine hK _ _ fun nx => ?_; clear hK K; try clear kk
         refine nmx ?_
         refine wJ ?_
         refine zG ?_
         refine ⟨_, (Option.some.inj hh), ?_⟩
         first | exact ⟨_, _, _, _, rfl⟩ | (simp only [pvE, lsE, zo]; exact ⟨_, _, _, _, rfl⟩) | (simp only [pvE, lsE, zo, h16, h17, h26, h27]; exact ⟨_, _, _, _, rfl⟩)
        ·rw [if_neg h27] at hh
         replace h27 := Bool.eq_false_iff.mpr h27
         refine zi (by first | exact congrArg PV.bool h27 | rfl) ?_
         refine zb fun K kk hK => ?_
         simp only [go_sem]
         refine hK _ _ fun nx => ?_; clear hK K; try clear kk
         by_cases h28 : (QY == (2 : Int)) = true
         ·rw [if_pos h28] at hh
          refine zn (by first | exact congrArg PV.bool h28 | rfl) ?_
          refine zq fun K kk hK => ?_
          simp only [go_sem]
          refine hK _ _ fun nx => ?_; clear hK K; try clear kk
          refine nmx ?_
          refine wJ ?_
          refine zG ?_
          refine ⟨_, (Option.some.inj hh), ?_⟩
          first | exact ⟨_, _, _, _, rfl⟩ | (simp only [pvE, lsE, zo]; exact ⟨_, _, _, _, rfl⟩) | (simp only [pvE, lsE, zo, h16, h17, h26, h27, h28]; exact ⟨_, _, _, _, rfl⟩)
         ·rw [if_neg h28] at hh
          replace h28 := Bool.eq_false_iff.mpr h28
          refine zi (by first | exact congrArg PV.bool h28 | rfl) ?_
          refine zy ?_; refine nmx ?_
          refine wJ ?_
          refine aow (ait _ [1, 2, 4, 5, 9] [2, 4, 9]) ?_
          refine ⟨_, (Option.some.inj hh), ?_⟩
          first | exact ⟨_, _, _, _, rfl⟩ | (simp only [pvE, lsE, zo]; exact ⟨_, _, _, _, rfl⟩) | (simp only [pvE, lsE, zo, h16, h17, h26, h27, h28]; exact ⟨_, _, _, _, rfl⟩)
      ·rintro s ⟨afv, rfl, nx, g2, g4, g9, rfl⟩
       try dsimp only at hh
       obtain ⟨⟨aoR, asy⟩, h29, hh⟩ := zf hh
       dsimp only at hh
       refine zb fun K kk hK => ?_
       simp only [go_sem]
       refine zg (acb _ _ _ h29) (by (try simp only [go_sem]) <;> exact wkl) (by rfl) (by rfl) ?_
       simp only [go_sem]
       refine hK _ _ fun nx => ?_; clear hK K; try clear kk
       refine zb fun K kk hK => ?_
       simp only [go_sem]
       refine hK _ _ fun nx => ?_; clear hK K; try clear kk
       by_cases h30 : (asy == (0 : Int)) = true
       ·rw [if_pos h30] at hh
        refine zn (by first | exact congrArg PV.bool h30 | rfl) ?_
        refine zq fun K kk hK => ?_
        simp only [go_sem]
        refine hK _ _ fun nx => ?_; clear hK K; try clear kk
        refine nmx ?_
        refine zq fun K kk hK => ?_
        simp only [go_sem]
        refine hK _ _ fun nx => ?_; clear hK K; try clear kk
        refine nmx ?_
        have ih' := ih _ _ hh nx
        refine zG ?_
        first | exact ih' _ _ | (simp only [pvE, lsE, zo] at ih' ⊢; exact ih' _ _) | (simp only [pvE, lsE, zo, h16, h17, h30] at ih' ⊢; exact ih' _ _)
       ·rw [if_neg h30] at hh
        replace h30 := Bool.eq_false_iff.mpr h30
        refine zi (by first | exact congrArg PV.bool h30 | rfl) ?_
        refine zy ?_; refine nmx ?_
        refine zq fun K kk hK => ?_
        simp only [go_sem]
        refine hK _ _ fun nx => ?_; clear hK K; try clear kk
        refine nmx ?_
        have ih' := ih _ _ hh nx
        refine zG ?_
        first | exact ih' _ _ | (simp only [pvE, lsE, zo] at ih' ⊢; exact ih' _ _) | (simp only [pvE, lsE, zo, h16, h17, h30] at ih' ⊢; exact ih' _ _)
      ·intro i s h; exact h.elim
      ·intro s h; exact h.elim
     ·rw [if_neg h17] at hh
      replace h17 := Bool.eq_false_iff.mpr h17
      refine zi (by first | exact congrArg PV.bool h17 | rfl) ?_
      refine zU ?_; refine nmx ?_
      refine wJ ?_
      refine zG ?_
      refine ⟨_, (Option.some.inj hh), ?_⟩
      first | exact ⟨_, _, _, _, _, rfl⟩ | (simp only [pvE, lsE, zo]; exact ⟨_, _, _, _, _, rfl⟩) | (simp only [pvE, lsE, zo, h16, h17]; exact ⟨_, _, _, _, _, rfl⟩)
    ·rw [if_neg h16] at hh
     replace h16 := Bool.eq_false_iff.mpr h16
     refine zb fun K kk hK => ?_
     simp only [go_sem, h16, of_decide_eq_false h16]
     (repeat refine sd ?_)
     refine hK _ _ fun nx => ?_; clear hK K; try clear kk
     refine zi rfl ?_
     refine zU ?_; refine nmx ?_
     refine wJ ?_
     refine zG ?_
     refine ⟨_, (Option.some.inj hh), ?_⟩
     first | exact ⟨_, _, _, _, _, rfl⟩ | (simp only [pvE, lsE, zo]; exact ⟨_, _, _, _, _, rfl⟩) | (simp only [pvE, lsE, zo, h16]; exact ⟨_, _, _, _, _, rfl⟩)
  exact key _ _ _ f0 _ _ _
 ·rintro s ⟨t, hless, alE, rfl, axt, auO, nx, g2, g4, rfl⟩
  try dsimp only at hh
  refine nmy ?_
  first | (refine wB hless ?_; try refine kC ?_) | refine qK hless ?_ | refine qI hless ?_
  refine zb fun K kk hK => ?_
  simp only [go_sem]
  refine hK _ _ fun nx => ?_; clear hK K; try clear kk
  refine zk ?_; refine nmx ?_
  obtain hR := Option.some.inj hh
  subst hR
  exact zz
 ·intro i s h; exact h.elim
 ·intro s h; exact h.elim
theorem Jj (l_1 : (List zu)) (m_2 : (List zu)) (k_3 : (List Int)) (R : Bool) (hh : jE l_1 m_2 k_3 = some R) : PC Tryd.prog 7 [.list 4 (l_1.map zu.pv), .list 4 (m_2.map zu.pv), .list 1 (k_3.map (PV.int .i64))] (.bool R) := by
 rw [jE] at hh
 refine KW rfl ?_
 refine zb fun K kk hK => ?_
 simp only [go_sem]
 refine hK _ _ fun nx => ?_; clear hK K; try clear kk
 obtain ⟨al5, h1, hh⟩ := zf hh
 refine zb fun K kk hK => ?_
 simp only [go_sem]
 refine zg (Yz _ h1) (by (try simp only [go_sem]) <;> exact wkl) (by rfl) (by rfl) ?_
 simp only [go_sem]
 refine hK _ _ fun nx => ?_; clear hK K; try clear kk
 refine zm ?_
 refine zb fun K kk hK => ?_
 simp only [go_sem]
 refine hK _ _ fun nx => ?_; clear hK K; try clear kk
 by_cases h2 : (!al5) = true
 ·rw [if_pos h2] at hh
  refine zn (by first | exact congrArg PV.bool h2 | rfl) ?_
  refine zb fun K kk hK => ?_
  simp only [go_sem]
  refine hK _ _ fun nx => ?_; clear hK K; try clear kk
  refine zk ?_; refine nmx ?_
  obtain hR := Option.some.inj hh
  subst hR
  exact zz
 ·rw [if_neg h2] at hh
  replace h2 := Bool.eq_false_iff.mpr h2
  refine zi (by first | exact congrArg PV.bool h2 | rfl) ?_
  refine zy ?_; refine nmx ?_
  obtain ⟨abM, h3, hh⟩ := zf hh
  refine zb fun K kk hK => ?_
  simp only [go_sem]
  refine zg (Zt _ _ h3) (by (try simp only [go_sem]) <;> exact wkl) (by rfl) (by rfl) ?_
  simp only [go_sem]
  refine hK _ _ fun nx => ?_; clear hK K; try clear kk
  obtain ⟨apK, h4, hh⟩ := zf hh
  refine zb fun K kk hK => ?_
  simp only [go_sem]
  refine zg (Zt _ _ h4) (by (try simp only [go_sem]) <;> exact wkl) (by rfl) (by rfl) ?_
  simp only [go_sem]
  refine hK _ _ fun nx => ?_; clear hK K; try clear kk
  obtain ⟨adO, h5, hh⟩ := zf hh
  refine zb fun K kk hK => ?_
  simp only [go_sem]
  refine zg (Xw _ _ _ h5) (by (try simp only [go_sem]) <;> exact wkl) (by rfl) (by rfl) ?_
  simp only [go_sem]
  refine hK _ _ fun nx => ?_; clear hK K; try clear kk
  obtain ⟨⟨r_8, r_9⟩, h6, hh⟩ := zf hh
  dsimp only at hh
  refine zb fun K kk hK => ?_
  simp only [go_sem]
  refine zg (Km _ _ _ h6) (by (try simp only [go_sem]) <;> exact wkl) (by rfl) (by rfl) ?_
  simp only [go_sem]
  refine hK _ _ fun nx => ?_; clear hK K; try clear kk
  obtain ⟨⟨J2, ac6⟩, h7, hh⟩ := zf hh
  dsimp only at hh
  refine zb fun K kk hK => ?_
  simp only [go_sem]
  refine zg (Km _ _ _ h7) (by (try simp only [go_sem]) <;> exact wkl) (by rfl) (by rfl) ?_
  simp only [go_sem]
  refine hK _ _ fun nx => ?_; clear hK K; try clear kk
  obtain ⟨⟨aeF, aaz⟩, h8, hh⟩ := zf hh
  dsimp only at hh
  refine zb fun K kk hK => ?_
  simp only [go_sem]
  refine zg (Km _ _ _ h8) (by (try simp only [go_sem]) <;> exact wkl) (by rfl) (by rfl) ?_
  simp only [go_sem]
  refine hK _ _ fun nx => ?_; clear hK K; try clear kk
  refine zm ?_
  by_cases h9 : (r_9 != (0 : Int)) = true
  ·rw [if_pos h9] at hh
   refine zb fun K kk hK => ?_
   simp only [go_sem, h9]
   (repeat refine sd ?_)
   refine hK _ _ fun nx => ?_; clear hK K; try clear kk
   refine zn rfl ?_
   refine zb fun K kk hK => ?_
   simp only [go_sem]
   refine hK _ _ fun nx => ?_; clear hK K; try clear kk
   refine zk ?_; refine nmx ?_
   obtain hR := Option.some.inj hh
   subst hR
   exact zz
  ·rw [if_neg h9] at hh
   replace h9 := Bool.eq_false_iff.mpr h9
   by_cases h10 : (ac6 != (0 : Int)) = true
   ·rw [if_pos h10] at hh
    refine zb fun K kk hK => ?_
    simp only [go_sem, h9, h10]
    (repeat refine sd ?_)
    refine hK _ _ fun nx => ?_; clear hK K; try clear kk
    refine zn rfl ?_
    refine zb fun K kk hK => ?_
    simp only [go_sem]
    refine hK _ _ fun nx => ?_; clear hK K; try clear kk
    refine zk ?_; refine nmx ?_
    obtain hR := Option.some.inj hh
    subst hR
    exact zz
   ·rw [if_neg h10] at hh
    replace h10 := Bool.eq_false_iff.mpr h10
    by_cases h11 : (aaz != (0 : Int)) = true
    ·rw [if_pos h11] at hh
     refine zb fun K kk hK => ?_
     simp only [go_sem, h9, h10, h11]
     (repeat refine sd ?_)
     refine hK _ _ fun nx => ?_; clear hK K; try clear kk
     refine zn rfl ?_
     refine zb fun K kk hK => ?_
     simp only [go_sem]
     refine hK _ _ fun nx => ?_; clear hK K; try clear kk
     refine zk ?_; refine nmx ?_
     obtain hR := Option.some.inj hh
     subst hR
     exact zz
    ·rw [if_neg h11] at hh
     replace h11 := Bool.eq_false_iff.mpr h11
     refine zb fun K kk hK => ?_
     simp only [go_sem, h9, h10, h11]
     (repeat refine sd ?_)
     refine hK _ _ fun nx => ?_; clear hK K; try clear kk
     by_cases h12 : ((aeF.length : Int) != (0 : Int)) = true
     ·rw [if_pos h12] at hh
      refine zn (by first | exact congrArg PV.bool h12 | rfl) ?_
      refine zb fun K kk hK => ?_
      simp only [go_sem]
      refine hK _ _ fun nx => ?_; clear hK K; try clear kk
      refine zk ?_; refine nmx ?_
      obtain hR := Option.some.inj hh
      subst hR
      exact zz
     ·rw [if_neg h12] at hh
      replace h12 := Bool.eq_false_iff.mpr h12
      refine zi (by first | exact congrArg PV.bool h12 | rfl) ?_
      refine zy ?_; refine nmx ?_
      obtain ⟨⟨agD, awX⟩, h13, hh⟩ := zf hh
      dsimp only at hh
      refine zb fun K kk hK => ?_
      simp only [go_sem]
      refine zg (af6 _ _ _ h13) (by (try simp only [go_sem]) <;> exact wkl) (by rfl) (by rfl) ?_
      simp only [go_sem]
      refine hK _ _ fun nx => ?_; clear hK K; try clear kk
      obtain ⟨⟨axR, aoo⟩, h14, hh⟩ := zf hh
      dsimp only at hh
      refine zb fun K kk hK => ?_
      simp only [go_sem]
      refine zg (af6 _ _ _ h14) (by (try simp only [go_sem]) <;> exact wkl) (by rfl) (by rfl) ?_
      simp only [go_sem]
      refine hK _ _ fun nx => ?_; clear hK K; try clear kk
      by_cases h15 : (awX == (0 : Int)) = true
      ·rw [if_pos h15] at hh
       by_cases h16 : (aoo == (0 : Int)) = true
       ·rw [if_pos h16] at hh
        obtain ⟨amb, h17, hh⟩ := zf hh
        by_cases h18 : (amb) = true
        ·rw [if_pos h18] at hh
         obtain ⟨amd, h19, hh⟩ := zf hh
         by_cases h20 : (amd) = true
         ·rw [if_pos h20] at hh
          obtain ⟨aly, h21, hh⟩ := zf hh
          by_cases h22 : (((((r_8.length : Int) == (0 : Int)) == aly) != false)) = true
          ·rw [if_pos h22] at hh
           obtain ⟨aqK, h23, hh⟩ := zf hh
           refine zb fun K kk hK => ?_
           simp only [go_sem, h15, h16, h18, h20, h22]
           (repeat refine sd ?_)
           refine zg (kW _ _ _ h17) (by (try simp only [go_sem, h15, h16, h18, h20, h22]) <;> exact wkl) (by rfl) (by rfl) ?_
           simp only [go_sem, h15, h16, h18, h20, h22]
           (repeat refine sd ?_)
           refine zg (kW _ _ _ h19) (by (try simp only [go_sem, h15, h16, h18, h20, h22]) <;> exact wkl) (by rfl) (by rfl) ?_
           simp only [go_sem, h15, h16, h18, h20, h22]
           (repeat refine sd ?_)
           refine zg (kW _ _ _ h21) (by (try simp only [go_sem, h15, h16, h18, h20, h22]) <;> exact wkl) (by rfl) (by rfl) ?_
           simp only [go_sem, h15, h16, h18, h20, h22]
           (repeat refine sd ?_)
           refine zg (kW _ _ _ h23) (by (try simp only [go_sem, h15, h16, h18, h20, h22]) <;> exact wkl) (by rfl) (by rfl) ?_
           simp only [go_sem, h15, h16, h18, h20, h22]
           (repeat refine sd ?_)
           refine hK _ _ fun nx => ?_; clear hK K; try clear kk
           refine zk ?_; refine nmx ?_
           obtain hR := Option.some.inj hh
           subst hR
           exact zz
          ·rw [if_neg h22] at hh
           replace h22 := Bool.eq_false_iff.mpr h22
           refine zb fun K kk hK => ?_
           simp only [go_sem, h15, h16, h18, h20, h22]
           (repeat refine sd ?_)
           refine zg (kW _ _ _ h17) (by (try simp only [go_sem, h15, h16, h18, h20, h22]) <;> exact wkl) (by rfl) (by rfl) ?_
           simp only [go_sem, h15, h16, h18, h20, h22]
           (repeat refine sd ?_)
           refine zg (kW _ _ _ h19) (by (try simp only [go_sem, h15, h16, h18, h20, h22]) <;> exact wkl) (by rfl) (by rfl) ?_
           simp only [go_sem, h15, h16, h18, h20, h22]
           (repeat refine sd ?_)
           refine zg (kW _ _ _ h21) (by (try simp only [go_sem, h15, h16, h18, h20, h22]) <;> exact wkl) (by rfl) (by rfl) ?_
           simp only [go_sem, h15, h16, h18, h20, h22]
           (repeat refine sd ?_)
           refine hK _ _ fun nx => ?_; clear hK K; try clear kk
           refine zk ?_; refine nmx ?_
           obtain hR := Option.some.inj hh
           subst hR
           exact zz
         ·rw [if_neg h20] at hh
          replace h20 := Bool.eq_false_iff.mpr h20
          refine zb fun K kk hK => ?_
          simp only [go_sem, h15, h16, h18, h20]
          (repeat refine sd ?_)
          refine zg (kW _ _ _ h17) (by (try simp only [go_sem, h15, h16, h18, h20]) <;> exact wkl) (by rfl) (by rfl) ?_
          simp only [go_sem, h15, h16, h18, h20]
          (repeat refine sd ?_)
          refine zg (kW _ _ _ h19) (by (try simp only [go_sem, h15, h16, h18, h20]) <;> exact wkl) (by rfl) (by rfl) ?_
          simp only [go_sem, h15, h16, h18, h20]
          (repeat refine sd ?_)
          refine hK _ _ fun nx => ?_; clear hK K; try clear kk
          refine zk ?_; refine nmx ?_
          obtain hR := Option.some.inj hh
          subst hR
          exact zz
        ·rw [if_neg h18] at hh
         replace h18 := Bool.eq_false_iff.mpr h18
         refine zb fun K kk hK => ?_
         simp only [go_sem, h15, h16, h18]
         (repeat refine sd ?_)
         refine zg (kW _ _ _ h17) (by (try simp only [go_sem, h15, h16, h18]) <;> exact wkl) (by rfl) (by rfl) ?_
         simp only [go_sem, h15, h16, h18]
         (repeat refine sd ?_)
         refine hK _ _ fun nx => ?_; clear hK K; try clear kk
         refine zk ?_; refine nmx ?_
         obtain hR := Option.some.inj hh
         subst hR
         exact zz
       ·rw [if_neg h16] at hh
        replace h16 := Bool.eq_false_iff.mpr h16
        refine zb fun K kk hK => ?_
        simp only [go_sem, h15, h16]
        (repeat refine sd ?_)
        refine hK _ _ fun nx => ?_; clear hK K; try clear kk
        refine zk ?_; refine nmx ?_
        obtain hR := Option.some.inj hh
        subst hR
        exact zz
      ·rw [if_neg h15] at hh
       replace h15 := Bool.eq_false_iff.mpr h15
       refine zb fun K kk hK => ?_
       simp only [go_sem, h15]
       (repeat refine sd ?_)
       refine hK _ _ fun nx => ?_; clear hK K; try clear kk
       refine zk ?_; refine nmx ?_
       obtain hR := Option.some.inj hh
       subst hR
       exact zz
end Go.Proofs.YtclohbgnaopjfaaDoor
