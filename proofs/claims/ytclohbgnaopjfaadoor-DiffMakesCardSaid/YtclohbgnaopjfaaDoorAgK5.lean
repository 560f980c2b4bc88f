/- Texts of the proof of diffMakesCard -/
import Derived.Test.YtclohbgnaopjfaaDoorAgC
import Derived.Test.YtclohbgnaopjfaaDoorAgF
import Derived.Test.YtclohbgnaopjfaaDoorAgK3
import Derived.Test.YtclohbgnaopjfaaDoorAgK4
namespace Go.Proofs.YtclohbgnaopjfaaDoor
set_option linter.unusedSimpArgs false
set_option linter.unusedVariables false
open Go
set_option maxRecDepth 100000
theorem Zt (l_1 : (List zu)) (R : za) (hh : vL l_1 = some R) : PC Tryd.prog 12 [.list 4 (l_1.map zu.pv)] (.agg [.str R.Kind, .str R.Text, .list 1 (R.Marks.map PV.str), .list 2 (R.zh.map ze.pv), .list 5 (R.Kids.map za.pv)]) := by
 rw [vL] at hh
 refine XF rfl ?_
 refine zb fun K kk hK => ?_
 simp only [go_sem]
 refine hK _ _ fun nx => ?_; clear hK K; try clear kk
 refine zb fun K kk hK => ?_
 simp only [go_sem]
 refine hK _ _ fun nx => ?_; clear hK K; try clear kk
 refine zb fun K kk hK => ?_
 simp only [go_sem]
 refine hK _ _ fun nx => ?_; clear hK K; try clear kk
 refine zb fun K kk hK => ?_
 simp only [go_sem]
 refine hK _ _ fun nx => ?_; clear hK K; try clear kk
 refine zm ?_
 refine zb fun K kk hK => ?_
 simp only [go_sem]
 refine hK _ _ fun nx => ?_; clear hK K; try clear kk
 obtain ⟨e0, f0, hh⟩ := zf hh
 obtain ⟨hlen0, f0⟩ := qo f0
 refine qD (kE (fun s => ∃ aq3, aq3 = e0 ∧ ∃ (ayo : Int) (ayv : Bool) (aiv : (List za)) (nx : Nat) (g2 : Nat) (g3 : Nat) (g4 : Nat) (g5 : Nat) (g332 : Nat), s = ⟨[(0, .list 4 (l_1.map zu.pv)), (2, .box 2 g2 0), (3, .row 3 g3 [([97] : Str), ([98, 99] : Str), ([195, 169] : Str), ([120, 32, 121] : Str), ([230, 151, 165, 230, 156, 172] : Str)].length), (4, .box 4 g4 0), (5, .row 5 g5 aiv.length), (6, .int .i64 ayo), (22, .bool ayv)], [(2, g2, .var 28 [.str ([] : Str), .str ([] : Str), .list 1 ([].map PV.str), .list 2 ([].map ze.pv), .list 5 ([].map za.pv)]), (3, g3, .row false 1 ([([97] : Str), ([98, 99] : Str), ([195, 169] : Str), ([120, 32, 121] : Str), ([230, 151, 165, 230, 156, 172] : Str)].map PV.str)), (4, g4, .var 28 [.str ([100, 111, 99] : Str), .str ([] : Str), .list 1 ([].map PV.str), .list 2 ([].map ze.pv), .row 332 g332 aq3.length]), (5, g5, .row false 5 (aiv.map za.pv)), (332, g332, .row false 5 (aq3.map za.pv))], nx⟩))
  (fun i s => False)
  (fun s => False) ?_ ?_ ?_ ?_
 ·refine zC ?_
  refine qg fun I hI => ?_
  have key : ∀ (suf pre : List zu) (Kc : Int) (yA : (List za)) (Zx : (List za)), l_1 = pre ++ suf → Kc = (pre.length : Int) → zF suf Kc yA Zx = some e0 → ∀ (nx : Nat) (g2 : Nat) (g3 : Nat) (g4 : Nat) (g5 : Nat) (g332 : Nat), I ⟨[(0, .list 4 (l_1.map zu.pv)), (2, .box 2 g2 0), (3, .row 3 g3 [([97] : Str), ([98, 99] : Str), ([195, 169] : Str), ([120, 32, 121] : Str), ([230, 151, 165, 230, 156, 172] : Str)].length), (4, .box 4 g4 0), (5, .row 5 g5 yA.length), (6, .int .i64 Kc)], [(2, g2, .var 28 [.str ([] : Str), .str ([] : Str), .list 1 ([].map PV.str), .list 2 ([].map ze.pv), .list 5 ([].map za.pv)]), (3, g3, .row false 1 ([([97] : Str), ([98, 99] : Str), ([195, 169] : Str), ([120, 32, 121] : Str), ([230, 151, 165, 230, 156, 172] : Str)].map PV.str)), (4, g4, .var 28 [.str ([100, 111, 99] : Str), .str ([] : Str), .list 1 ([].map PV.str), .list 2 ([].map ze.pv), .row 332 g332 Zx.length]), (5, g5, .row false 5 (yA.map za.pv)), (332, g332, .row false 5 (Zx.map za.pv))], nx⟩ := by
   intro suf
   induction suf with
   | nil =>
    intro pre Kc yA Zx hsplit hidx hh nx g2 g3 g4 g5 g332
    rw [zF] at hh
    refine hI _ ?_
    have h77 := walk_nil hsplit hidx
    refine zm ?_
    refine zb fun K kk hK => ?_
    simp only [go_sem, h77, of_decide_eq_false h77]
    (repeat refine sd ?_)
    refine hK _ _ fun nx => ?_; clear hK K; try clear kk
    refine zi rfl ?_
    refine zU ?_; refine nmx ?_
    refine wJ ?_
    refine zG ?_
    refine ⟨_, (Option.some.inj hh), ?_⟩
    first | exact ⟨_, _, _, _, _, _, _, _, _, rfl⟩ | (simp only [pvE, lsE, zo]; exact ⟨_, _, _, _, _, _, _, _, _, rfl⟩) | (simp only [pvE, lsE, zo, h77]; exact ⟨_, _, _, _, _, _, _, _, _, rfl⟩)
   | cons afk suf ih =>
    intro pre Kc yA Zx hsplit hidx hh nx g2 g3 g4 g5 g332
    rw [zF] at hh
    refine hI _ ?_
    obtain ⟨hl0a, hl0b, hl0d, hl0w, h77⟩ := qZ (f := zu.pv) hsplit hidx hlen0
    refine zm ?_
    refine zb fun K kk hK => ?_
    simp only [go_sem, h77, of_decide_eq_true h77, hl0a, hl0b, hl0d, hl0w]
    (repeat refine sd ?_)
    refine hK _ _ fun nx => ?_; clear hK K; try clear kk
    by_cases h78 : (decide (Kc < (40 : Int))) = true
    ·rw [if_pos h78] at hh
     refine zn (by first | exact congrArg PV.bool h78 | rfl) ?_
     refine zy ?_; refine nmx ?_
     refine zm ?_
     refine zC ?_
     obtain ⟨aqE, h79, hh⟩ := zf hh
     obtain ⟨avb, h80, hh⟩ := zf hh
     obtain ⟨h80a, h80b, h80c⟩ := rd_some h80
     have h80d := wR (f := PV.str) h80c
     have h80f := qM (f := PV.str) h80c
     try simp only [Int.toNat_natCast, Int.reduceToNat] at h80d h80f
     simp only [List.length_cons, List.length_nil, List.map_cons, List.map_nil, Nat.zero_add, Nat.reduceAdd, reduceCtorEq, not_false_eq_true, and_true, pvE] at h80b h80d h80f
     refine zb fun K kk hK => ?_
     simp only [go_sem, h80a, h80b, h80d, h80f, hl0a, hl0b, hl0d, hl0w]
     (repeat refine sd ?_)
     refine zg (wm _ _ _ h79) (by (try simp only [go_sem, h80a, h80b, h80d, h80f, hl0a, hl0b, hl0d, hl0w]) <;> exact wkl) (by rfl) (by rfl) ?_
     simp only [go_sem, h80a, h80b, h80d, h80f, hl0a, hl0b, hl0d, hl0w]
     (repeat refine sd ?_)
     refine hK _ _ fun nx => ?_; clear hK K; try clear kk
     refine zm ?_
     obtain ⟨e7, f7, hh⟩ := zf hh
     refine ZX (fun s => ∃ apC, apC = e7 ∧ ∃ (nx : Nat) (g2 : Nat) (g3 : Nat) (g4 : Nat) (g5 : Nat) (g7 : Nat) (g332 : Nat) (g351 : Nat), s = ⟨[(0, .list 4 (l_1.map zu.pv)), (2, .box 2 g2 0), (3, .row 3 g3 [([97] : Str), ([98, 99] : Str), ([195, 169] : Str), ([120, 32, 121] : Str), ([230, 151, 165, 230, 156, 172] : Str)].length), (4, .box 4 g4 0), (5, .row 5 g5 yA.length), (6, .int .i64 Kc), (7, .box 7 g7 0)], [(2, g2, .var 28 [.str ([] : Str), .str ([] : Str), .list 1 ([].map PV.str), .list 2 ([].map ze.pv), .list 5 ([].map za.pv)]), (3, g3, .row false 1 ([([97] : Str), ([98, 99] : Str), ([195, 169] : Str), ([120, 32, 121] : Str), ([230, 151, 165, 230, 156, 172] : Str)].map PV.str)), (4, g4, .var 28 [.str ([100, 111, 99] : Str), .str ([] : Str), .list 1 ([].map PV.str), .list 2 ([].map ze.pv), .row 332 g332 Zx.length]), (5, g5, .row false 5 (yA.map za.pv)), (7, g7, .var 28 [.str ([116, 101, 120, 116] : Str), .str avb, .row 351 g351 apC.length, .list 2 ([].map ze.pv), .list 5 ([].map za.pv)]), (332, g332, .row false 5 (Zx.map za.pv)), (351, g351, .row false 1 (apC.map PV.str))], nx⟩)
      (fun i s => False)
      (fun s => False) ?_ ?_ ?_ ?_
     ·have hh := f7
      obtain ⟨ac3, h81, hh⟩ := zf hh
      refine zb fun K kk hK => ?_
      simp only [go_sem, hl0a, hl0b, hl0d, hl0w]
      refine zg (wm _ _ _ h81) (by (try simp only [go_sem, hl0a, hl0b, hl0d, hl0w]) <;> exact wkl) (by rfl) (by rfl) ?_
      simp only [go_sem, hl0a, hl0b, hl0d, hl0w]
      refine hK _ _ fun nx => ?_; clear hK K; try clear kk
      by_cases h82 : ((akL ac3 (1 : Int)) == (1 : Int)) = true
      ·rw [if_pos h82] at hh
       refine zn (by first | exact congrArg PV.bool h82 | rfl) ?_
       obtain ⟨aoL, h83, hh⟩ := zf hh
       obtain ⟨h83a, h83c⟩ := zZ h83
       have h83d := qX (f := PV.str) h83c
       have h83e := (qW h83c).symm
       try simp only [List.length_cons, List.length_nil, Nat.zero_add, Nat.reduceAdd] at h83a h83e
       try simp only [List.map_cons, List.map_nil, List.nil_append, List.append_nil, List.cons_append, List.singleton_append, zo, pvE] at h83d
       have h83g := aoa (f := PV.str) h83e
       have h83h := atz h83e h83a
       refine zq fun K kk hK => ?_
       simp only [go_sem, h83a, h83d, eq_true h83e, eq_true (Nat.le_of_eq h83e.symm), h83g, hl0a, hl0b, hl0d, hl0w]
       (repeat refine sd ?_)
       refine hK _ _ fun nx => ?_; clear hK K; try clear kk
       refine nmx ?_
       refine wJ ?_
       refine zG ?_
       refine ⟨_, (Option.some.inj hh), ?_⟩
       first | exact ⟨_, _, _, _, _, _, _, _, rfl⟩ | (simp only [pvE, lsE, zo, h83e]; exact ⟨_, _, _, _, _, _, _, _, rfl⟩) | (simp only [pvE, lsE, zo, h83e, h77, h78, h82]; exact ⟨_, _, _, _, _, _, _, _, rfl⟩)
      ·rw [if_neg h82] at hh
       replace h82 := Bool.eq_false_iff.mpr h82
       refine zi (by first | exact congrArg PV.bool h82 | rfl) ?_
       refine zy ?_; refine nmx ?_
       refine wJ ?_
       refine aow (ait _ [0, 2, 3, 4, 5, 6, 7] [2, 3, 4, 5, 7, 332, 351]) ?_
       refine ⟨_, (Option.some.inj hh), ?_⟩
       first | exact ⟨_, _, _, _, _, _, _, _, rfl⟩ | (simp only [pvE, lsE, zo]; exact ⟨_, _, _, _, _, _, _, _, rfl⟩) | (simp only [pvE, lsE, zo, h77, h78, h82]; exact ⟨_, _, _, _, _, _, _, _, rfl⟩)
     ·rintro s ⟨apC, rfl, nx, g2, g3, g4, g5, g7, g332, g351, rfl⟩
      try dsimp only at hh
      refine zm ?_
      obtain ⟨e8, f8, hh⟩ := zf hh
      refine ZX (fun s => ∃ arD, arD = e8 ∧ ∃ (nx : Nat) (g2 : Nat) (g3 : Nat) (g4 : Nat) (g5 : Nat) (g7 : Nat) (g332 : Nat) (g351 : Nat), s = ⟨[(0, .list 4 (l_1.map zu.pv)), (2, .box 2 g2 0), (3, .row 3 g3 [([97] : Str), ([98, 99] : Str), ([195, 169] : Str), ([120, 32, 121] : Str), ([230, 151, 165, 230, 156, 172] : Str)].length), (4, .box 4 g4 0), (5, .row 5 g5 yA.length), (6, .int .i64 Kc), (7, .box 7 g7 0)], [(2, g2, .var 28 [.str ([] : Str), .str ([] : Str), .list 1 ([].map PV.str), .list 2 ([].map ze.pv), .list 5 ([].map za.pv)]), (3, g3, .row false 1 ([([97] : Str), ([98, 99] : Str), ([195, 169] : Str), ([120, 32, 121] : Str), ([230, 151, 165, 230, 156, 172] : Str)].map PV.str)), (4, g4, .var 28 [.str ([100, 111, 99] : Str), .str ([] : Str), .list 1 ([].map PV.str), .list 2 ([].map ze.pv), .row 332 g332 Zx.length]), (5, g5, .row false 5 (yA.map za.pv)), (7, g7, .var 28 [.str ([116, 101, 120, 116] : Str), .str avb, .row 351 g351 arD.length, .list 2 ([].map ze.pv), .list 5 ([].map za.pv)]), (332, g332, .row false 5 (Zx.map za.pv)), (351, g351, .row false 1 (arD.map PV.str))], nx⟩)
       (fun i s => False)
       (fun s => False) ?_ ?_ ?_ ?_
      ·have hh := f8
       obtain ⟨adE, h84, hh⟩ := zf hh
       refine zb fun K kk hK => ?_
       simp only [go_sem, hl0a, hl0b, hl0d, hl0w]
       refine zg (wm _ _ _ h84) (by (try simp only [go_sem, hl0a, hl0b, hl0d, hl0w]) <;> exact wkl) (by rfl) (by rfl) ?_
       simp only [go_sem, hl0a, hl0b, hl0d, hl0w]
       refine hK _ _ fun nx => ?_; clear hK K; try clear kk
       by_cases h85 : ((akL adE (2 : Int)) == (2 : Int)) = true
       ·rw [if_pos h85] at hh
        refine zn (by first | exact congrArg PV.bool h85 | rfl) ?_
        obtain ⟨avk, h86, hh⟩ := zf hh
        obtain ⟨h86a, h86c⟩ := zZ h86
        have h86d := qX (f := PV.str) h86c
        have h86e := qW h86c
        try simp only [List.length_cons, List.length_nil, Nat.zero_add, Nat.reduceAdd] at h86a h86e
        try simp only [h86e] at h86a
        try simp only [List.map_cons, List.map_nil, List.nil_append, List.append_nil, List.cons_append, List.singleton_append, zo, pvE] at h86d
        refine zq fun K kk hK => ?_
        simp only [go_sem, h86a, h86d, h86e, hl0a, hl0b, hl0d, hl0w]
        (repeat refine sd ?_)
        refine hK _ _ fun nx => ?_; clear hK K; try clear kk
        refine nmx ?_
        refine wJ ?_
        refine zG ?_
        refine ⟨_, (Option.some.inj hh), ?_⟩
        first | exact ⟨_, _, _, _, _, _, _, _, rfl⟩ | (simp only [pvE, lsE, zo, h86e]; exact ⟨_, _, _, _, _, _, _, _, rfl⟩) | (simp only [pvE, lsE, zo, h86e, h77, h78, h85]; exact ⟨_, _, _, _, _, _, _, _, rfl⟩)
       ·rw [if_neg h85] at hh
        replace h85 := Bool.eq_false_iff.mpr h85
        refine zi (by first | exact congrArg PV.bool h85 | rfl) ?_
        refine zy ?_; refine nmx ?_
        refine wJ ?_
        refine aow (ait _ [0, 2, 3, 4, 5, 6, 7] [2, 3, 4, 5, 7, 332, 351]) ?_
        refine ⟨_, (Option.some.inj hh), ?_⟩
        first | exact ⟨_, _, _, _, _, _, _, _, rfl⟩ | (simp only [pvE, lsE, zo]; exact ⟨_, _, _, _, _, _, _, _, rfl⟩) | (simp only [pvE, lsE, zo, h77, h78, h85]; exact ⟨_, _, _, _, _, _, _, _, rfl⟩)
      ·rintro s ⟨arD, rfl, nx, g2, g3, g4, g5, g7, g332, g351, rfl⟩
       try dsimp only at hh
       obtain ⟨YL, h87, hh⟩ := zf hh
       obtain ⟨h87a, h87c⟩ := zZ h87
       have h87d := qX (f := za.pv) h87c
       have h87e := qW h87c
       try simp only [List.length_cons, List.length_nil, Nat.zero_add, Nat.reduceAdd] at h87a h87e
       try simp only [h87e] at h87a
       try simp only [List.map_cons, List.map_nil, List.nil_append, List.append_nil, List.cons_append, List.singleton_append, zo, pvE] at h87d
       refine zb fun K kk hK => ?_
       simp only [go_sem, h87a, h87d, h87e, hl0a, hl0b, hl0d, hl0w]
       (repeat refine sd ?_)
       refine hK _ _ fun nx => ?_; clear hK K; try clear kk
       obtain ⟨Yb, h88, hh⟩ := zf hh
       refine zb fun K kk hK => ?_
       simp only [go_sem, hl0a, hl0b, hl0d, hl0w]
       refine zg (wm _ _ _ h88) (by (try simp only [go_sem, hl0a, hl0b, hl0d, hl0w]) <;> exact wkl) (by rfl) (by rfl) ?_
       simp only [go_sem, hl0a, hl0b, hl0d, hl0w]
       refine hK _ _ fun nx => ?_; clear hK K; try clear kk
       refine zm ?_
       refine zb fun K kk hK => ?_
       simp only [go_sem, hl0a, hl0b, hl0d, hl0w]
       refine hK _ _ fun nx => ?_; clear hK K; try clear kk
       by_cases h89 : (Yb == (0 : Int)) = true
       ·rw [if_pos h89] at hh
        refine zn (by first | exact congrArg PV.bool h89 | rfl) ?_
        refine zU ?_; refine nmx ?_
        refine zq fun K kk hK => ?_
        simp only [go_sem, hl0a, hl0b, hl0d, hl0w]
        refine hK _ _ fun nx => ?_; clear hK K; try clear kk
        refine nmx ?_
        have ih' := ih (pre ++ [afk]) (Kc + 1) _ _ (by rw [hsplit]; simp) (by simp [hidx]) hh nx
        refine zG ?_
        first | exact ih' _ _ _ _ _ | (simp only [pvE, lsE, zo, h87e] at ih' ⊢; exact ih' _ _ _ _ _) | (simp only [pvE, lsE, zo, h87e, h77, h78, h89] at ih' ⊢; exact ih' _ _ _ _ _)
       ·rw [if_neg h89] at hh
        replace h89 := Bool.eq_false_iff.mpr h89
        refine zi (by first | exact congrArg PV.bool h89 | rfl) ?_
        refine zy ?_; refine nmx ?_
        obtain ⟨xL, h90, hh⟩ := zf hh
        refine zb fun K kk hK => ?_
        simp only [go_sem, hl0a, hl0b, hl0d, hl0w]
        refine zg (Y0 _ _ _ h90) (by (try simp only [go_sem, hl0a, hl0b, hl0d, hl0w]) <;> exact wkl) (by rfl) (by rfl) ?_
        simp only [go_sem, hl0a, hl0b, hl0d, hl0w]
        refine hK _ _ fun nx => ?_; clear hK K; try clear kk
        refine zb fun K kk hK => ?_
        simp only [go_sem, hl0a, hl0b, hl0d, hl0w]
        refine hK _ _ fun nx => ?_; clear hK K; try clear kk
        refine zb fun K kk hK => ?_
        simp only [go_sem, hl0a, hl0b, hl0d, hl0w]
        refine hK _ _ fun nx => ?_; clear hK K; try clear kk
        refine zm ?_
        refine zb fun K kk hK => ?_
        simp only [go_sem, hl0a, hl0b, hl0d, hl0w]
        refine hK _ _ fun nx => ?_; clear hK K; try clear kk
        by_cases h91 : (decide (Yb < (3 : Int))) = true
        ·rw [if_pos h91] at hh
         refine zn (by first | exact congrArg PV.bool h91 | rfl) ?_
         obtain ⟨avi, h92, hh⟩ := zf hh
         obtain ⟨h92a, h92c⟩ := zZ h92
         have h92d := qX (f := za.pv) h92c
         have h92e := qW h92c
         try simp only [List.length_cons, List.length_nil, Nat.zero_add, Nat.reduceAdd] at h92a h92e
         try simp only [h92e] at h92a
         try simp only [List.map_cons, List.map_nil, List.nil_append, List.append_nil, List.cons_append, List.singleton_append, zo, pvE] at h92d
         refine zb fun K kk hK => ?_
         simp only [go_sem, h92a, h92d, h92e, hl0a, hl0b, hl0d, hl0w]
         (repeat refine sd ?_)
         refine hK _ _ fun nx => ?_; clear hK K; try clear kk
         refine zU ?_; refine nmx ?_
         refine zq fun K kk hK => ?_
         simp only [go_sem, hl0a, hl0b, hl0d, hl0w]
         refine hK _ _ fun nx => ?_; clear hK K; try clear kk
         refine nmx ?_
         have ih' := ih (pre ++ [afk]) (Kc + 1) _ _ (by rw [hsplit]; simp) (by simp [hidx]) hh nx
         refine zG ?_
         first | exact ih' _ _ _ _ _ | (simp only [pvE, lsE, zo, h87e, h92e] at ih' ⊢; exact ih' _ _ _ _ _) | (simp only [pvE, lsE, zo, h87e, h92e, h77, h78, h89, h91] at ih' ⊢; exact ih' _ _ _ _ _)
        ·rw [if_neg h91] at hh
         replace h91 := Bool.eq_false_iff.mpr h91
         refine zi (by first | exact congrArg PV.bool h91 | rfl) ?_
         refine zy ?_; refine nmx ?_
         refine zb fun K kk hK => ?_
         simp only [go_sem, hl0a, hl0b, hl0d, hl0w]
         refine hK _ _ fun nx => ?_; clear hK K; try clear kk
         refine zm ?_
         obtain ⟨e9, f9, hh⟩ := zf hh
         refine ZX (fun s => .inr () = e9 ∧ ∃ (axz : Bool) (nx : Nat) (g2 : Nat) (g3 : Nat) (g4 : Nat) (g5 : Nat) (g11 : Nat) (g332 : Nat) (g381 : Nat), s = ⟨[(0, .list 4 (l_1.map zu.pv)), (2, .box 2 g2 0), (3, .row 3 g3 [([97] : Str), ([98, 99] : Str), ([195, 169] : Str), ([120, 32, 121] : Str), ([230, 151, 165, 230, 156, 172] : Str)].length), (4, .box 4 g4 0), (5, .row 5 g5 ([] : List za).length), (6, .int .i64 Kc), (10, .int .i64 (w64 ((Zx.length : Int) - (1 : Int)))), (11, .box 11 g11 0), (108, .bool axz)], [(2, g2, .var 28 [.str ([] : Str), .str ([] : Str), .list 1 ([].map PV.str), .list 2 ([].map ze.pv), .list 5 ([].map za.pv)]), (3, g3, .row false 1 ([([97] : Str), ([98, 99] : Str), ([195, 169] : Str), ([120, 32, 121] : Str), ([230, 151, 165, 230, 156, 172] : Str)].map PV.str)), (4, g4, .var 28 [.str ([100, 111, 99] : Str), .str ([] : Str), .list 1 ([].map PV.str), .list 2 ([].map ze.pv), .row 332 g332 Zx.length]), (5, g5, .row false 5 (([] : List za).map za.pv)), (11, g11, .var 28 [.str ([105, 116, 101, 109] : Str), .str ([] : Str), .list 1 ([].map PV.str), .list 2 ([].map ze.pv), .row 381 g381 [xL].length]), (332, g332, .row false 5 (Zx.map za.pv)), (381, g381, .row false 5 ([xL].map za.pv))], nx⟩)
          (fun i s => (i = 1 ∧ ∃ anN, .inl anN = e9 ∧ ∃ (nx : Nat) (g2 : Nat) (g3 : Nat) (g4 : Nat) (g5 : Nat) (g332 : Nat), s = ⟨[(0, .list 4 (l_1.map zu.pv)), (2, .box 2 g2 0), (3, .row 3 g3 [([97] : Str), ([98, 99] : Str), ([195, 169] : Str), ([120, 32, 121] : Str), ([230, 151, 165, 230, 156, 172] : Str)].length), (4, .box 4 g4 0), (5, .row 5 g5 ([] : List za).length), (6, .int .i64 Kc)], [(2, g2, .var 28 [.str ([] : Str), .str ([] : Str), .list 1 ([].map PV.str), .list 2 ([].map ze.pv), .list 5 ([].map za.pv)]), (3, g3, .row false 1 ([([97] : Str), ([98, 99] : Str), ([195, 169] : Str), ([120, 32, 121] : Str), ([230, 151, 165, 230, 156, 172] : Str)].map PV.str)), (4, g4, .var 28 [.str ([100, 111, 99] : Str), .str ([] : Str), .list 1 ([].map PV.str), .list 2 ([].map ze.pv), .row 332 g332 anN.length]), (5, g5, .row false 5 (([] : List za).map za.pv)), (332, g332, .row false 5 (anN.map za.pv))], nx⟩))
          (fun s => False) ?_ ?_ ?_ ?_
         ·have hh := f9
          by_cases h93 : (decide ((w64 ((Zx.length : Int) - (1 : Int))) ≥ (0 : Int))) = true
          ·rw [if_pos h93] at hh
           obtain ⟨alC, h94, hh⟩ := zf hh
           obtain ⟨h94a, h94b, h94c⟩ := rd_some h94
           have h94d := wR (f := za.pv) h94c
           have h94f := qM (f := za.pv) h94c
           try simp only [Int.toNat_natCast, Int.reduceToNat] at h94d h94f
           by_cases h95 : (alC.Kind == ([108, 105, 115, 116] : Str)) = true
           ·rw [if_pos h95] at hh
            refine zb fun K kk hK => ?_
            simp only [go_sem, h93, of_decide_eq_true h93, h94a, h94b, h94d, h94f.1, h94f.2, h95, hl0a, hl0b, hl0d, hl0w]
            (repeat refine sd ?_)
            refine hK _ _ fun nx => ?_; clear hK K; try clear kk
            by_cases h96 : (Yb == (3 : Int)) = true
            ·rw [if_pos h96] at hh
             refine zn (by first | exact congrArg PV.bool h96 | rfl) ?_
             refine zb fun K kk hK => ?_
             simp only [go_sem, h94a, h94b, h94d, h94f.1, h94f.2, hl0a, hl0b, hl0d, hl0w]
             (repeat refine sd ?_)
             refine hK _ _ fun nx => ?_; clear hK K; try clear kk
             obtain ⟨aps, h97, hh⟩ := zf hh
             obtain ⟨h97a, h97c⟩ := zZ h97
             have h97d := qX (f := za.pv) h97c
             have h97e := qW h97c
             try simp only [List.length_cons, List.length_nil, Nat.zero_add, Nat.reduceAdd] at h97a h97e
             try simp only [h97e] at h97a
             try simp only [List.map_cons, List.map_nil, List.nil_append, List.append_nil, List.cons_append, List.singleton_append, zo, pvE] at h97d
             obtain ⟨ave, h98, hh⟩ := zf hh
             obtain ⟨h98a, h98c⟩ := zZ h98
             have h98d := qX (f := za.pv) h98c
             have h98e := qW h98c
             try simp only [List.length_cons, List.length_nil, Nat.zero_add, Nat.reduceAdd] at h98a h98e
             try simp only [h98e] at h98a
             try simp only [List.map_cons, List.map_nil, List.nil_append, List.append_nil, List.cons_append, List.singleton_append, zo, pvE] at h98d
             refine apj (.nrm 11 [none, none, none, none, some 5]) ?_
             refine zb fun K kk hK => ?_
             simp only [go_sem, h97a, h97d, h97e, h98a, h98d, h98e, hl0a, hl0b, hl0d, hl0w]
             (repeat refine sd ?_)
             refine hK _ _ fun nx => ?_; clear hK K; try clear kk
             obtain ⟨avD, h99, hh⟩ := zf hh
             obtain ⟨h99a, h99c⟩ := yL h99
             have h99g := Ju h99a
             have h99d := Jr (f := za.pv) h99c
             try simp only [Int.toNat_natCast, Int.reduceToNat, List.map_cons, List.map_nil, pvE] at h99d
             obtain ⟨avR, h100, hh⟩ := zf hh
             obtain ⟨h100a, h100c⟩ := zZ h100
             have h100d := qX (f := za.pv) h100c
             have h100e := qW h100c
             try simp only [List.length_cons, List.length_nil, Nat.zero_add, Nat.reduceAdd] at h100a h100e
             try simp only [h100e] at h100a
             try simp only [List.map_cons, List.map_nil, List.nil_append, List.append_nil, List.cons_append, List.singleton_append, zo, pvE] at h100d
             obtain ⟨avW, h101, hh⟩ := zf hh
             obtain ⟨h101a, h101c⟩ := zZ h101
             have h101d := qX (f := za.pv) h101c
             have h101e := qW h101c
             try simp only [List.length_cons, List.length_nil, Nat.zero_add, Nat.reduceAdd] at h101a h101e
             try simp only [h101e] at h101a
             try simp only [List.map_cons, List.map_nil, List.nil_append, List.append_nil, List.cons_append, List.singleton_append, zo, pvE] at h101d
             refine zb fun K kk hK => ?_
             simp only [go_sem, h99a.1, h99a.2.1, h99a.2.2, h99d, h99g, h100a, h100d, h100e, h101a, h101d, h101e, hl0a, hl0b, hl0d, hl0w]
             (repeat refine sd ?_)
             refine hK _ _ fun nx => ?_; clear hK K; try clear kk
             refine zU ?_; refine nmx ?_
             refine auz ⟨rfl, _, (Option.some.inj hh), ?_⟩
             first | exact ⟨_, _, _, _, _, _, rfl⟩ | (simp only [pvE, lsE, zo, h87e, h97e, h97d, h98e, h100e, h100d, h101e]; exact ⟨_, _, _, _, _, _, rfl⟩) | (simp only [pvE, lsE, zo, h87e, h97e, h97d, h98e, h100e, h100d, h101e, h77, h78, h89, h91, h93, h95, h96]; exact ⟨_, _, _, _, _, _, rfl⟩)
            ·rw [if_neg h96] at hh
             replace h96 := Bool.eq_false_iff.mpr h96
             refine zi (by first | exact congrArg PV.bool h96 | rfl) ?_
             refine zy ?_; refine nmx ?_
             refine wJ ?_
             refine zG ?_
             refine ⟨(Option.some.inj hh), ?_⟩
             first | exact ⟨_, _, _, _, _, _, _, _, _, rfl⟩ | (simp only [pvE, lsE, zo, h87e]; exact ⟨_, _, _, _, _, _, _, _, _, rfl⟩) | (simp only [pvE, lsE, zo, h87e, h77, h78, h89, h91, h93, h95, h96]; exact ⟨_, _, _, _, _, _, _, _, _, rfl⟩)
           ·rw [if_neg h95] at hh
            replace h95 := Bool.eq_false_iff.mpr h95
            refine zb fun K kk hK => ?_
            simp only [go_sem, h93, of_decide_eq_true h93, h94a, h94b, h94d, h94f.1, h94f.2, h95, hl0a, hl0b, hl0d, hl0w]
            (repeat refine sd ?_)
            refine hK _ _ fun nx => ?_; clear hK K; try clear kk
            refine zi rfl ?_
            refine zy ?_; refine nmx ?_
            refine wJ ?_
            refine zG ?_
            refine ⟨(Option.some.inj hh), ?_⟩
            first | exact ⟨_, _, _, _, _, _, _, _, _, rfl⟩ | (simp only [pvE, lsE, zo, h87e]; exact ⟨_, _, _, _, _, _, _, _, _, rfl⟩) | (simp only [pvE, lsE, zo, h87e, h77, h78, h89, h91, h93, h95]; exact ⟨_, _, _, _, _, _, _, _, _, rfl⟩)
          ·rw [if_neg h93] at hh
           replace h93 := Bool.eq_false_iff.mpr h93
           refine zb fun K kk hK => ?_
           simp only [go_sem, h93, of_decide_eq_false h93, hl0a, hl0b, hl0d, hl0w]
           (repeat refine sd ?_)
           refine hK _ _ fun nx => ?_; clear hK K; try clear kk
           refine zi rfl ?_
           refine zy ?_; refine nmx ?_
           refine wJ ?_
           refine zG ?_
           refine ⟨(Option.some.inj hh), ?_⟩
           first | exact ⟨_, _, _, _, _, _, _, _, _, rfl⟩ | (simp only [pvE, lsE, zo, h87e]; exact ⟨_, _, _, _, _, _, _, _, _, rfl⟩) | (simp only [pvE, lsE, zo, h87e, h77, h78, h89, h91, h93]; exact ⟨_, _, _, _, _, _, _, _, _, rfl⟩)
         ·rintro s ⟨rfl, axz, nx, g2, g3, g4, g5, g11, g332, g381, rfl⟩
          try dsimp only at hh
          refine zm ?_
          by_cases h102 : (decide ((w64 ((Zx.length : Int) - (1 : Int))) ≥ (0 : Int))) = true
          ·rw [if_pos h102] at hh
           obtain ⟨alU, h103, hh⟩ := zf hh
           obtain ⟨h103a, h103b, h103c⟩ := rd_some h103
           have h103d := wR (f := za.pv) h103c
           have h103f := qM (f := za.pv) h103c
           try simp only [Int.toNat_natCast, Int.reduceToNat] at h103d h103f
           by_cases h104 : (alU.Kind == ([108, 105, 115, 116] : Str)) = true
           ·rw [if_pos h104] at hh
            obtain ⟨aac, h105, hh⟩ := zf hh
            refine zb fun K kk hK => ?_
            simp only [go_sem, h102, of_decide_eq_true h102, h103a, h103b, h103d, h103f.1, h103f.2, h104, hl0a, hl0b, hl0d, hl0w]
            (repeat refine sd ?_)
            refine zg (YR _ _ h105) (by (try simp only [go_sem, h102, of_decide_eq_true h102, h103a, h103b, h103d, h103f.1, h103f.2, h104, hl0a, hl0b, hl0d, hl0w]) <;> exact wkl) (by rfl) (by rfl) ?_
            simp only [go_sem, h102, of_decide_eq_true h102, h103a, h103b, h103d, h103f.1, h103f.2, h104, hl0a, hl0b, hl0d, hl0w]
            (repeat refine sd ?_)
            refine hK _ _ fun nx => ?_; clear hK K; try clear kk
            by_cases h106 : (decide (aac < (30 : Int))) = true
            ·rw [if_pos h106] at hh
             refine zn (by first | exact congrArg PV.bool h106 | rfl) ?_
             obtain ⟨avV, h107, hh⟩ := zf hh
             obtain ⟨h107a, h107c⟩ := zZ h107
             have h107d := qX (f := za.pv) h107c
             have h107e := (qW h107c).symm
             try simp only [List.length_cons, List.length_nil, Nat.zero_add, Nat.reduceAdd] at h107a h107e
             try simp only [List.map_cons, List.map_nil, List.nil_append, List.append_nil, List.cons_append, List.singleton_append, zo, pvE] at h107d
             have h107g := aoa (f := za.pv) h107e
             have h107h := atz h107e h107a
             refine zb fun K kk hK => ?_
             simp only [go_sem, h103a, h103b, h103d, h103f.1, h103f.2, h107a, h107d, eq_true h107e, eq_true (Nat.le_of_eq h107e.symm), h107g, hl0a, hl0b, hl0d, hl0w]
             (repeat refine sd ?_)
             refine hK _ _ fun nx => ?_; clear hK K; try clear kk
             obtain ⟨avx, h108, hh⟩ := zf hh
             obtain ⟨h108a, h108c⟩ := yL h108
             have h108g := Ju h108a
             have h108d := Jr (f := za.pv) h108c
             try simp only [Int.toNat_natCast, Int.reduceToNat, List.map_cons, List.map_nil, pvE] at h108d
             obtain ⟨avy, h109, hh⟩ := zf hh
             obtain ⟨h109a, h109c⟩ := zZ h109
             have h109d := qX (f := za.pv) h109c
             have h109e := qW h109c
             try simp only [List.length_cons, List.length_nil, Nat.zero_add, Nat.reduceAdd] at h109a h109e
             try simp only [h109e] at h109a
             try simp only [List.map_cons, List.map_nil, List.nil_append, List.append_nil, List.cons_append, List.singleton_append, zo, pvE] at h109d
             refine zq fun K kk hK => ?_
             simp only [go_sem, h108a.1, h108a.2.1, h108a.2.2, h108d, h108g, h109a, h109d, h109e, eq_true h107e, eq_true (Nat.le_of_eq h107e.symm), h107g, hl0a, hl0b, hl0d, hl0w]
             (repeat refine sd ?_)
             refine hK _ _ fun nx => ?_; clear hK K; try clear kk
             refine nmx ?_
             obtain ⟨avn, h110, hh⟩ := zf hh
             obtain ⟨h110a, h110c⟩ := zZ h110
             have h110d := qX (f := za.pv) h110c
             have h110e := qW h110c
             try simp only [List.length_cons, List.length_nil, Nat.zero_add, Nat.reduceAdd] at h110a h110e
             try simp only [h110e] at h110a
             try simp only [List.map_cons, List.map_nil, List.nil_append, List.append_nil, List.cons_append, List.singleton_append, zo, pvE] at h110d
             refine zq fun K kk hK => ?_
             simp only [go_sem, h110a, h110d, h110e, eq_true h107e, eq_true (Nat.le_of_eq h107e.symm), h107g, hl0a, hl0b, hl0d, hl0w]
             (repeat refine sd ?_)
             refine hK _ _ fun nx => ?_; clear hK K; try clear kk
             refine nmx ?_
             refine zq fun K kk hK => ?_
             simp only [go_sem, eq_true h107e, eq_true (Nat.le_of_eq h107e.symm), h107g, hl0a, hl0b, hl0d, hl0w]
             refine hK _ _ fun nx => ?_; clear hK K; try clear kk
             refine nmx ?_
             have ih' := ih (pre ++ [afk]) (Kc + 1) _ _ (by rw [hsplit]; simp) (by simp [hidx]) hh nx
             refine zG ?_
             first | exact ih' _ _ _ _ _ | (simp only [pvE, lsE, zo, h87e, h107e, h109e, h109d, h110e] at ih' ⊢; exact ih' _ _ _ _ _) | (simp only [pvE, lsE, zo, h87e, h107e, h109e, h109d, h110e, h102, h104, h106, h77, h78, h89, h91] at ih' ⊢; exact ih' _ _ _ _ _)
            ·rw [if_neg h106] at hh
             replace h106 := Bool.eq_false_iff.mpr h106
             refine zi (by first | exact congrArg PV.bool h106 | rfl) ?_
             refine zy ?_; refine nmx ?_
             obtain ⟨avF, h111, hh⟩ := zf hh
             obtain ⟨h111a, h111c⟩ := zZ h111
             have h111d := qX (f := za.pv) h111c
             have h111e := qW h111c
             try simp only [List.length_cons, List.length_nil, Nat.zero_add, Nat.reduceAdd] at h111a h111e
             try simp only [h111e] at h111a
             try simp only [List.map_cons, List.map_nil, List.nil_append, List.append_nil, List.cons_append, List.singleton_append, zo, pvE] at h111d
             refine zq fun K kk hK => ?_
             simp only [go_sem, h111a, h111d, h111e, hl0a, hl0b, hl0d, hl0w]
             (repeat refine sd ?_)
             refine hK _ _ fun nx => ?_; clear hK K; try clear kk
             refine nmx ?_
             refine zq fun K kk hK => ?_
             simp only [go_sem, hl0a, hl0b, hl0d, hl0w]
             refine hK _ _ fun nx => ?_; clear hK K; try clear kk
             refine nmx ?_
             have ih' := ih (pre ++ [afk]) (Kc + 1) _ _ (by rw [hsplit]; simp) (by simp [hidx]) hh nx
             refine zG ?_
             first | exact ih' _ _ _ _ _ | (simp only [pvE, lsE, zo, h87e, h111e] at ih' ⊢; exact ih' _ _ _ _ _) | (simp only [pvE, lsE, zo, h87e, h111e, h102, h104, h106, h77, h78, h89, h91] at ih' ⊢; exact ih' _ _ _ _ _)
           ·rw [if_neg h104] at hh
            replace h104 := Bool.eq_false_iff.mpr h104
            refine zb fun K kk hK => ?_
            simp only [go_sem, h102, of_decide_eq_true h102, h103a, h103b, h103d, h103f.1, h103f.2, h104, hl0a, hl0b, hl0d, hl0w]
            (repeat refine sd ?_)
            refine hK _ _ fun nx => ?_; clear hK K; try clear kk
            refine zi rfl ?_
            refine zy ?_; refine nmx ?_
            obtain ⟨avO, h112, hh⟩ := zf hh
            obtain ⟨h112a, h112c⟩ := zZ h112
            have h112d := qX (f := za.pv) h112c
            have h112e := qW h112c
            try simp only [List.length_cons, List.length_nil, Nat.zero_add, Nat.reduceAdd] at h112a h112e
            try simp only [h112e] at h112a
            try simp only [List.map_cons, List.map_nil, List.nil_append, List.append_nil, List.cons_append, List.singleton_append, zo, pvE] at h112d
            refine zq fun K kk hK => ?_
            simp only [go_sem, h112a, h112d, h112e, hl0a, hl0b, hl0d, hl0w]
            (repeat refine sd ?_)
            refine hK _ _ fun nx => ?_; clear hK K; try clear kk
            refine nmx ?_
            refine zq fun K kk hK => ?_
            simp only [go_sem, hl0a, hl0b, hl0d, hl0w]
            refine hK _ _ fun nx => ?_; clear hK K; try clear kk
            refine nmx ?_
            have ih' := ih (pre ++ [afk]) (Kc + 1) _ _ (by rw [hsplit]; simp) (by simp [hidx]) hh nx
            refine zG ?_
            first | exact ih' _ _ _ _ _ | (simp only [pvE, lsE, zo, h87e, h112e] at ih' ⊢; exact ih' _ _ _ _ _) | (simp only [pvE, lsE, zo, h87e, h112e, h102, h104, h77, h78, h89, h91] at ih' ⊢; exact ih' _ _ _ _ _)
          ·rw [if_neg h102] at hh
           replace h102 := Bool.eq_false_iff.mpr h102
           refine zb fun K kk hK => ?_
           simp only [go_sem, h102, of_decide_eq_false h102, hl0a, hl0b, hl0d, hl0w]
           (repeat refine sd ?_)
           refine hK _ _ fun nx => ?_; clear hK K; try clear kk
           refine zi rfl ?_
           refine zy ?_; refine nmx ?_
           obtain ⟨avG, h113, hh⟩ := zf hh
           obtain ⟨h113a, h113c⟩ := zZ h113
           have h113d := qX (f := za.pv) h113c
           have h113e := qW h113c
           try simp only [List.length_cons, List.length_nil, Nat.zero_add, Nat.reduceAdd] at h113a h113e
           try simp only [h113e] at h113a
           try simp only [List.map_cons, List.map_nil, List.nil_append, List.append_nil, List.cons_append, List.singleton_append, zo, pvE] at h113d
           refine zq fun K kk hK => ?_
           simp only [go_sem, h113a, h113d, h113e, hl0a, hl0b, hl0d, hl0w]
           (repeat refine sd ?_)
           refine hK _ _ fun nx => ?_; clear hK K; try clear kk
           refine nmx ?_
           refine zq fun K kk hK => ?_
           simp only [go_sem, hl0a, hl0b, hl0d, hl0w]
           refine hK _ _ fun nx => ?_; clear hK K; try clear kk
           refine nmx ?_
           have ih' := ih (pre ++ [afk]) (Kc + 1) _ _ (by rw [hsplit]; simp) (by simp [hidx]) hh nx
           refine zG ?_
           first | exact ih' _ _ _ _ _ | (simp only [pvE, lsE, zo, h87e, h113e] at ih' ⊢; exact ih' _ _ _ _ _) | (simp only [pvE, lsE, zo, h87e, h113e, h102, h77, h78, h89, h91] at ih' ⊢; exact ih' _ _ _ _ _)
         ·intro i s h
          obtain ⟨rfl, anN, rfl, nx, g2, g3, g4, g5, g332, rfl⟩ := h
          try dsimp only at hh
          refine nmx ?_
          refine zq fun K kk hK => ?_
          simp only [go_sem, hl0a, hl0b, hl0d, hl0w]
          refine hK _ _ fun nx => ?_; clear hK K; try clear kk
          refine nmx ?_
          have ih' := ih (pre ++ [afk]) (Kc + 1) _ _ (by rw [hsplit]; simp) (by simp [hidx]) hh nx
          refine zG ?_
          first | exact ih' _ _ _ _ _ | (simp only [pvE, lsE, zo, h87e] at ih' ⊢; exact ih' _ _ _ _ _) | (simp only [pvE, lsE, zo, h87e, h77, h78, h89, h91] at ih' ⊢; exact ih' _ _ _ _ _)
         ·intro s h; exact h.elim
      ·intro i s h; exact h.elim
      ·intro s h; exact h.elim
     ·intro i s h; exact h.elim
     ·intro s h; exact h.elim
    ·rw [if_neg h78] at hh
     replace h78 := Bool.eq_false_iff.mpr h78
     refine zi (by first | exact congrArg PV.bool h78 | rfl) ?_
     refine zU ?_; refine nmx ?_
     refine wJ ?_
     refine zG ?_
     refine ⟨_, (Option.some.inj hh), ?_⟩
     first | exact ⟨_, _, _, _, _, _, _, _, _, rfl⟩ | (simp only [pvE, lsE, zo]; exact ⟨_, _, _, _, _, _, _, _, _, rfl⟩) | (simp only [pvE, lsE, zo, h77, h78]; exact ⟨_, _, _, _, _, _, _, _, _, rfl⟩)
  exact key l_1 [] _ _ _ rfl rfl f0 _ _ _ _ _ _
 ·rintro s ⟨t, hless, aq3, rfl, ayo, ayv, aiv, nx, g2, g3, g4, g5, g332, rfl⟩
  try dsimp only at hh
  refine nmy ?_
  first | (refine wB hless ?_; try refine kC ?_) | refine qK hless ?_ | refine qI hless ?_
  refine zb fun K kk hK => ?_
  simp only [go_sem]
  refine hK _ _ fun nx => ?_; clear hK K; try clear kk
  refine zk ?_; refine nmx ?_
  obtain hR := Option.some.inj hh
  subst hR
  exact zz
 ·intro i s h; exact h.elim
 ·intro s h; exact h.elim
theorem aa4 (l : (List Int)) (R : (List Int)) (hh : slices_Clone_int l = some R) : PC Tryd.prog 100 [.list 1 (l.map (PV.int .i64))] (.own 1 (R.map (PV.int .i64))) := by
 rw [slices_Clone_int] at hh
 obtain ⟨ha, hb⟩ := zZ hh
 rw [List.nil_append] at hb
 subst hb
 try simp only [List.length_nil, Nat.zero_add] at ha
 refine XQ rfl ?_
 refine zb fun K kk hK => ?_
 simp only [go_sem]
 refine hK _ _ fun nx => ?_; clear hK K; try clear kk
 refine zb fun K kk hK => ?_
 simp only [go_sem]
 refine ⟨fun hnil => hK _ _ fun nx => ?_, hK _ _ fun nx => ?_⟩ <;> (clear hK K; try clear kk)
 ·have hl : l = [] := by simpa using hnil
  subst hl
  first | refine zn rfl ?_ | (refine zm ?_; refine zn rfl ?_)
  refine zb fun K kk hK => ?_
  simp only [go_sem]
  refine hK _ _ fun nx => ?_; clear hK K; try clear kk
  refine zk ?_; refine nmx ?_
  exact JC rfl
 ·first | refine zi rfl ?_ | (refine zm ?_; refine zi rfl ?_)
  refine zy ?_; refine nmx ?_
  refine zb fun K kk hK => ?_
  simp only [go_sem, ha]
  refine hK _ _ fun nx => ?_; clear hK K; try clear kk
  refine zk ?_; refine nmx ?_
  exact XY (by rfl) (by rfl) (by rfl) (by simp) (by rfl)
end Go.Proofs.YtclohbgnaopjfaaDoor
