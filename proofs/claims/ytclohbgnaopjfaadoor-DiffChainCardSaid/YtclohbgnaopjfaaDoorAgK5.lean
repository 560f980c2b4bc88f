/- Texts of the proof of diffChainCard -/
import Derived.Test.YtclohbgnaopjfaaDoorAgC
import Derived.Test.YtclohbgnaopjfaaDoorAgF
import Derived.Test.YtclohbgnaopjfaaDoorAgK3
import Derived.Test.YtclohbgnaopjfaaDoorAgK4
namespace Go.Proofs.YtclohbgnaopjfaaDoor
set_option linter.unusedSimpArgs false
set_option linter.unusedVariables false
open Go
set_option maxRecDepth 100000
theorem vC (l_1 : (List zx)) (R : za) (hh : wV l_1 = some R) : PC Tryd.prog 12 [.list 4 (l_1.map zx.pv)] (.agg [.str R.Kind, .str R.Text, .list 1 (R.Marks.map PV.str), .list 2 (R.zh.map ze.pv), .list 5 (R.Kids.map za.pv)]) := by
 rw [wV] at hh
 refine X9 rfl ?_
 refine zb fun K kk hK => ?_
 simp only [go_sem]
 refine hK _ _ fun nx => ?_; clear hK K; try clear kk
 refine zb fun K kk hK => ?_
 simp only [go_sem]
 refine hK _ _ fun nx => ?_; clear hK K; try clear kk
 refine zb fun K kk hK => ?_
 simp only [go_sem]
 refine hK _ _ fun nx => ?_; clear hK K; try clear kk
 refine zb fun K kk hK => ?_
 simp only [go_sem]
 refine hK _ _ fun nx => ?_; clear hK K; try clear kk
 refine zm ?_
 refine zb fun K kk hK => ?_
 simp only [go_sem]
 refine hK _ _ fun nx => ?_; clear hK K; try clear kk
 obtain ⟨e0, f0, hh⟩ := zf hh
 obtain ⟨hlen0, f0⟩ := qf f0
 refine qp (kC (fun s => ∃ asG, asG = e0 ∧ ∃ (aye : Int) (ax8 : Bool) (ah2 : (List za)) (nx : Nat) (g2 : Nat) (g3 : Nat) (g4 : Nat) (g5 : Nat) (g332 : Nat), s = ⟨[(0, .list 4 (l_1.map zx.pv)), (2, .box 2 g2 0), (3, .row 3 g3 [([97] : Str), ([98, 99] : Str), ([195, 169] : Str), ([120, 32, 121] : Str), ([230, 151, 165, 230, 156, 172] : Str)].length), (4, .box 4 g4 0), (5, .row 5 g5 ah2.length), (6, .int .i64 aye), (22, .bool ax8)], [(2, g2, .var 28 [.str ([] : Str), .str ([] : Str), .list 1 ([].map PV.str), .list 2 ([].map ze.pv), .list 5 ([].map za.pv)]), (3, g3, .row false 1 ([([97] : Str), ([98, 99] : Str), ([195, 169] : Str), ([120, 32, 121] : Str), ([230, 151, 165, 230, 156, 172] : Str)].map PV.str)), (4, g4, .var 28 [.str ([100, 111, 99] : Str), .str ([] : Str), .list 1 ([].map PV.str), .list 2 ([].map ze.pv), .row 332 g332 asG.length]), (5, g5, .row false 5 (ah2.map za.pv)), (332, g332, .row false 5 (asG.map za.pv))], nx⟩))
  (fun i s => False)
  (fun s => False) ?_ ?_ ?_ ?_
 ·refine zA ?_
  refine qd fun I hI => ?_
  have key : ∀ (suf pre : List zx) (W9 : Int) (yC : (List za)) (Zz : (List za)), l_1 = pre ++ suf → W9 = (pre.length : Int) → zF suf W9 yC Zz = some e0 → ∀ (nx : Nat) (g2 : Nat) (g3 : Nat) (g4 : Nat) (g5 : Nat) (g332 : Nat), I ⟨[(0, .list 4 (l_1.map zx.pv)), (2, .box 2 g2 0), (3, .row 3 g3 [([97] : Str), ([98, 99] : Str), ([195, 169] : Str), ([120, 32, 121] : Str), ([230, 151, 165, 230, 156, 172] : Str)].length), (4, .box 4 g4 0), (5, .row 5 g5 yC.length), (6, .int .i64 W9)], [(2, g2, .var 28 [.str ([] : Str), .str ([] : Str), .list 1 ([].map PV.str), .list 2 ([].map ze.pv), .list 5 ([].map za.pv)]), (3, g3, .row false 1 ([([97] : Str), ([98, 99] : Str), ([195, 169] : Str), ([120, 32, 121] : Str), ([230, 151, 165, 230, 156, 172] : Str)].map PV.str)), (4, g4, .var 28 [.str ([100, 111, 99] : Str), .str ([] : Str), .list 1 ([].map PV.str), .list 2 ([].map ze.pv), .row 332 g332 Zz.length]), (5, g5, .row false 5 (yC.map za.pv)), (332, g332, .row false 5 (Zz.map za.pv))], nx⟩ := by
   intro suf
   induction suf with
   | nil =>
    intro pre W9 yC Zz hsplit hidx hh nx g2 g3 g4 g5 g332
    rw [zF] at hh
    refine hI _ ?_
    have h77 := walk_nil hsplit hidx
    refine zm ?_
    refine zb fun K kk hK => ?_
    simp only [go_sem, h77, of_decide_eq_false h77]
    (repeat refine sd ?_)
    refine hK _ _ fun nx => ?_; clear hK K; try clear kk
    refine zi rfl ?_
    refine zU ?_; refine nmx ?_
    refine wX ?_
    refine zG ?_
    refine ⟨_, (Option.some.inj hh), ?_⟩
    first | exact ⟨_, _, _, _, _, _, _, _, _, rfl⟩ | (simp only [pvE, lsE, zq]; exact ⟨_, _, _, _, _, _, _, _, _, rfl⟩) | (simp only [pvE, lsE, zq, h77]; exact ⟨_, _, _, _, _, _, _, _, _, rfl⟩)
   | cons afo suf ih =>
    intro pre W9 yC Zz hsplit hidx hh nx g2 g3 g4 g5 g332
    rw [zF] at hh
    refine hI _ ?_
    obtain ⟨hl0a, hl0b, hl0d, hl0w, h77⟩ := qM (f := zx.pv) hsplit hidx hlen0
    refine zm ?_
    refine zb fun K kk hK => ?_
    simp only [go_sem, h77, of_decide_eq_true h77, hl0a, hl0b, hl0d, hl0w]
    (repeat refine sd ?_)
    refine hK _ _ fun nx => ?_; clear hK K; try clear kk
    by_cases h78 : (decide (W9 < (40 : Int))) = true
    ·rw [if_pos h78] at hh
     refine zn (by first | exact congrArg PV.bool h78 | rfl) ?_
     refine zy ?_; refine nmx ?_
     refine zm ?_
     refine zA ?_
     obtain ⟨aq4, h79, hh⟩ := zf hh
     obtain ⟨avT, h80, hh⟩ := zf hh
     obtain ⟨h80a, h80b, h80c⟩ := rd_some h80
     have h80d := kE (f := PV.str) h80c
     have h80f := wo (f := PV.str) h80c
     try simp only [Int.toNat_natCast, Int.reduceToNat] at h80d h80f
     simp only [List.length_cons, List.length_nil, List.map_cons, List.map_nil, Nat.zero_add, Nat.reduceAdd, reduceCtorEq, not_false_eq_true, and_true, pvE] at h80b h80d h80f
     refine zb fun K kk hK => ?_
     simp only [go_sem, h80a, h80b, h80d, h80f, hl0a, hl0b, hl0d, hl0w]
     (repeat refine sd ?_)
     refine zg (ve _ _ _ h79) (by (try simp only [go_sem, h80a, h80b, h80d, h80f, hl0a, hl0b, hl0d, hl0w]) <;> exact wkl) (by rfl) (by rfl) ?_
     simp only [go_sem, h80a, h80b, h80d, h80f, hl0a, hl0b, hl0d, hl0w]
     (repeat refine sd ?_)
     refine hK _ _ fun nx => ?_; clear hK K; try clear kk
     refine zm ?_
     obtain ⟨e7, f7, hh⟩ := zf hh
     refine QR (fun s => ∃ aoT, aoT = e7 ∧ ∃ (nx : Nat) (g2 : Nat) (g3 : Nat) (g4 : Nat) (g5 : Nat) (g7 : Nat) (g332 : Nat) (g351 : Nat), s = ⟨[(0, .list 4 (l_1.map zx.pv)), (2, .box 2 g2 0), (3, .row 3 g3 [([97] : Str), ([98, 99] : Str), ([195, 169] : Str), ([120, 32, 121] : Str), ([230, 151, 165, 230, 156, 172] : Str)].length), (4, .box 4 g4 0), (5, .row 5 g5 yC.length), (6, .int .i64 W9), (7, .box 7 g7 0)], [(2, g2, .var 28 [.str ([] : Str), .str ([] : Str), .list 1 ([].map PV.str), .list 2 ([].map ze.pv), .list 5 ([].map za.pv)]), (3, g3, .row false 1 ([([97] : Str), ([98, 99] : Str), ([195, 169] : Str), ([120, 32, 121] : Str), ([230, 151, 165, 230, 156, 172] : Str)].map PV.str)), (4, g4, .var 28 [.str ([100, 111, 99] : Str), .str ([] : Str), .list 1 ([].map PV.str), .list 2 ([].map ze.pv), .row 332 g332 Zz.length]), (5, g5, .row false 5 (yC.map za.pv)), (7, g7, .var 28 [.str ([116, 101, 120, 116] : Str), .str avT, .row 351 g351 aoT.length, .list 2 ([].map ze.pv), .list 5 ([].map za.pv)]), (332, g332, .row false 5 (Zz.map za.pv)), (351, g351, .row false 1 (aoT.map PV.str))], nx⟩)
      (fun i s => False)
      (fun s => False) ?_ ?_ ?_ ?_
     ·have hh := f7
      obtain ⟨adL, h81, hh⟩ := zf hh
      refine zb fun K kk hK => ?_
      simp only [go_sem, hl0a, hl0b, hl0d, hl0w]
      refine zg (ve _ _ _ h81) (by (try simp only [go_sem, hl0a, hl0b, hl0d, hl0w]) <;> exact wkl) (by rfl) (by rfl) ?_
      simp only [go_sem, hl0a, hl0b, hl0d, hl0w]
      refine hK _ _ fun nx => ?_; clear hK K; try clear kk
      by_cases h82 : ((ajO adL (1 : Int)) == (1 : Int)) = true
      ·rw [if_pos h82] at hh
       refine zn (by first | exact congrArg PV.bool h82 | rfl) ?_
       obtain ⟨aoS, h83, hh⟩ := zf hh
       obtain ⟨h83a, h83c⟩ := zV h83
       have h83d := qI (f := PV.str) h83c
       have h83e := (qK h83c).symm
       try simp only [List.length_cons, List.length_nil, Nat.zero_add, Nat.reduceAdd] at h83a h83e
       try simp only [List.map_cons, List.map_nil, List.nil_append, List.append_nil, List.cons_append, List.singleton_append, zq, pvE] at h83d
       have h83g := ank (f := PV.str) h83e
       have h83h := as1 h83e h83a
       refine zu fun K kk hK => ?_
       simp only [go_sem, h83a, h83d, eq_true h83e, eq_true (Nat.le_of_eq h83e.symm), h83g, hl0a, hl0b, hl0d, hl0w]
       (repeat refine sd ?_)
       refine hK _ _ fun nx => ?_; clear hK K; try clear kk
       refine nmx ?_
       refine wX ?_
       refine zG ?_
       refine ⟨_, (Option.some.inj hh), ?_⟩
       first | exact ⟨_, _, _, _, _, _, _, _, rfl⟩ | (simp only [pvE, lsE, zq, h83e]; exact ⟨_, _, _, _, _, _, _, _, rfl⟩) | (simp only [pvE, lsE, zq, h83e, h77, h78, h82]; exact ⟨_, _, _, _, _, _, _, _, rfl⟩)
      ·rw [if_neg h82] at hh
       replace h82 := Bool.eq_false_iff.mpr h82
       refine zi (by first | exact congrArg PV.bool h82 | rfl) ?_
       refine zy ?_; refine nmx ?_
       refine wX ?_
       refine atH (anW _ [0, 2, 3, 4, 5, 6, 7] [2, 3, 4, 5, 7, 332, 351]) ?_
       refine ⟨_, (Option.some.inj hh), ?_⟩
       first | exact ⟨_, _, _, _, _, _, _, _, rfl⟩ | (simp only [pvE, lsE, zq]; exact ⟨_, _, _, _, _, _, _, _, rfl⟩) | (simp only [pvE, lsE, zq, h77, h78, h82]; exact ⟨_, _, _, _, _, _, _, _, rfl⟩)
     ·rintro s ⟨aoT, rfl, nx, g2, g3, g4, g5, g7, g332, g351, rfl⟩
      try dsimp only at hh
      refine zm ?_
      obtain ⟨e8, f8, hh⟩ := zf hh
      refine QR (fun s => ∃ asO, asO = e8 ∧ ∃ (nx : Nat) (g2 : Nat) (g3 : Nat) (g4 : Nat) (g5 : Nat) (g7 : Nat) (g332 : Nat) (g351 : Nat), s = ⟨[(0, .list 4 (l_1.map zx.pv)), (2, .box 2 g2 0), (3, .row 3 g3 [([97] : Str), ([98, 99] : Str), ([195, 169] : Str), ([120, 32, 121] : Str), ([230, 151, 165, 230, 156, 172] : Str)].length), (4, .box 4 g4 0), (5, .row 5 g5 yC.length), (6, .int .i64 W9), (7, .box 7 g7 0)], [(2, g2, .var 28 [.str ([] : Str), .str ([] : Str), .list 1 ([].map PV.str), .list 2 ([].map ze.pv), .list 5 ([].map za.pv)]), (3, g3, .row false 1 ([([97] : Str), ([98, 99] : Str), ([195, 169] : Str), ([120, 32, 121] : Str), ([230, 151, 165, 230, 156, 172] : Str)].map PV.str)), (4, g4, .var 28 [.str ([100, 111, 99] : Str), .str ([] : Str), .list 1 ([].map PV.str), .list 2 ([].map ze.pv), .row 332 g332 Zz.length]), (5, g5, .row false 5 (yC.map za.pv)), (7, g7, .var 28 [.str ([116, 101, 120, 116] : Str), .str avT, .row 351 g351 asO.length, .list 2 ([].map ze.pv), .list 5 ([].map za.pv)]), (332, g332, .row false 5 (Zz.map za.pv)), (351, g351, .row false 1 (asO.map PV.str))], nx⟩)
       (fun i s => False)
       (fun s => False) ?_ ?_ ?_ ?_
      ·have hh := f8
       obtain ⟨aeB, h84, hh⟩ := zf hh
       refine zb fun K kk hK => ?_
       simp only [go_sem, hl0a, hl0b, hl0d, hl0w]
       refine zg (ve _ _ _ h84) (by (try simp only [go_sem, hl0a, hl0b, hl0d, hl0w]) <;> exact wkl) (by rfl) (by rfl) ?_
       simp only [go_sem, hl0a, hl0b, hl0d, hl0w]
       refine hK _ _ fun nx => ?_; clear hK K; try clear kk
       by_cases h85 : ((ajO aeB (2 : Int)) == (2 : Int)) = true
       ·rw [if_pos h85] at hh
        refine zn (by first | exact congrArg PV.bool h85 | rfl) ?_
        obtain ⟨avA, h86, hh⟩ := zf hh
        obtain ⟨h86a, h86c⟩ := zV h86
        have h86d := qI (f := PV.str) h86c
        have h86e := qK h86c
        try simp only [List.length_cons, List.length_nil, Nat.zero_add, Nat.reduceAdd] at h86a h86e
        try simp only [h86e] at h86a
        try simp only [List.map_cons, List.map_nil, List.nil_append, List.append_nil, List.cons_append, List.singleton_append, zq, pvE] at h86d
        refine zu fun K kk hK => ?_
        simp only [go_sem, h86a, h86d, h86e, hl0a, hl0b, hl0d, hl0w]
        (repeat refine sd ?_)
        refine hK _ _ fun nx => ?_; clear hK K; try clear kk
        refine nmx ?_
        refine wX ?_
        refine zG ?_
        refine ⟨_, (Option.some.inj hh), ?_⟩
        first | exact ⟨_, _, _, _, _, _, _, _, rfl⟩ | (simp only [pvE, lsE, zq, h86e]; exact ⟨_, _, _, _, _, _, _, _, rfl⟩) | (simp only [pvE, lsE, zq, h86e, h77, h78, h85]; exact ⟨_, _, _, _, _, _, _, _, rfl⟩)
       ·rw [if_neg h85] at hh
        replace h85 := Bool.eq_false_iff.mpr h85
        refine zi (by first | exact congrArg PV.bool h85 | rfl) ?_
        refine zy ?_; refine nmx ?_
        refine wX ?_
        refine atH (anW _ [0, 2, 3, 4, 5, 6, 7] [2, 3, 4, 5, 7, 332, 351]) ?_
        refine ⟨_, (Option.some.inj hh), ?_⟩
        first | exact ⟨_, _, _, _, _, _, _, _, rfl⟩ | (simp only [pvE, lsE, zq]; exact ⟨_, _, _, _, _, _, _, _, rfl⟩) | (simp only [pvE, lsE, zq, h77, h78, h85]; exact ⟨_, _, _, _, _, _, _, _, rfl⟩)
      ·rintro s ⟨asO, rfl, nx, g2, g3, g4, g5, g7, g332, g351, rfl⟩
       try dsimp only at hh
       obtain ⟨aay, h87, hh⟩ := zf hh
       obtain ⟨h87a, h87c⟩ := zV h87
       have h87d := qI (f := za.pv) h87c
       have h87e := qK h87c
       try simp only [List.length_cons, List.length_nil, Nat.zero_add, Nat.reduceAdd] at h87a h87e
       try simp only [h87e] at h87a
       try simp only [List.map_cons, List.map_nil, List.nil_append, List.append_nil, List.cons_append, List.singleton_append, zq, pvE] at h87d
       refine zb fun K kk hK => ?_
       simp only [go_sem, h87a, h87d, h87e, hl0a, hl0b, hl0d, hl0w]
       (repeat refine sd ?_)
       refine hK _ _ fun nx => ?_; clear hK K; try clear kk
       obtain ⟨X3, h88, hh⟩ := zf hh
       refine zb fun K kk hK => ?_
       simp only [go_sem, hl0a, hl0b, hl0d, hl0w]
       refine zg (ve _ _ _ h88) (by (try simp only [go_sem, hl0a, hl0b, hl0d, hl0w]) <;> exact wkl) (by rfl) (by rfl) ?_
       simp only [go_sem, hl0a, hl0b, hl0d, hl0w]
       refine hK _ _ fun nx => ?_; clear hK K; try clear kk
       refine zm ?_
       refine zb fun K kk hK => ?_
       simp only [go_sem, hl0a, hl0b, hl0d, hl0w]
       refine hK _ _ fun nx => ?_; clear hK K; try clear kk
       by_cases h89 : (X3 == (0 : Int)) = true
       ·rw [if_pos h89] at hh
        refine zn (by first | exact congrArg PV.bool h89 | rfl) ?_
        refine zU ?_; refine nmx ?_
        refine zu fun K kk hK => ?_
        simp only [go_sem, hl0a, hl0b, hl0d, hl0w]
        refine hK _ _ fun nx => ?_; clear hK K; try clear kk
        refine nmx ?_
        have ih' := ih (pre ++ [afo]) (W9 + 1) _ _ (by rw [hsplit]; simp) (by simp [hidx]) hh nx
        refine zG ?_
        first | exact ih' _ _ _ _ _ | (simp only [pvE, lsE, zq, h87e] at ih' ⊢; exact ih' _ _ _ _ _) | (simp only [pvE, lsE, zq, h87e, h77, h78, h89] at ih' ⊢; exact ih' _ _ _ _ _)
       ·rw [if_neg h89] at hh
        replace h89 := Bool.eq_false_iff.mpr h89
        refine zi (by first | exact congrArg PV.bool h89 | rfl) ?_
        refine zy ?_; refine nmx ?_
        obtain ⟨xP, h90, hh⟩ := zf hh
        refine zb fun K kk hK => ?_
        simp only [go_sem, hl0a, hl0b, hl0d, hl0w]
        refine zg (aac _ _ _ h90) (by (try simp only [go_sem, hl0a, hl0b, hl0d, hl0w]) <;> exact wkl) (by rfl) (by rfl) ?_
        simp only [go_sem, hl0a, hl0b, hl0d, hl0w]
        refine hK _ _ fun nx => ?_; clear hK K; try clear kk
        refine zb fun K kk hK => ?_
        simp only [go_sem, hl0a, hl0b, hl0d, hl0w]
        refine hK _ _ fun nx => ?_; clear hK K; try clear kk
        refine zb fun K kk hK => ?_
        simp only [go_sem, hl0a, hl0b, hl0d, hl0w]
        refine hK _ _ fun nx => ?_; clear hK K; try clear kk
        refine zm ?_
        refine zb fun K kk hK => ?_
        simp only [go_sem, hl0a, hl0b, hl0d, hl0w]
        refine hK _ _ fun nx => ?_; clear hK K; try clear kk
        by_cases h91 : (decide (X3 < (3 : Int))) = true
        ·rw [if_pos h91] at hh
         refine zn (by first | exact congrArg PV.bool h91 | rfl) ?_
         obtain ⟨avy, h92, hh⟩ := zf hh
         obtain ⟨h92a, h92c⟩ := zV h92
         have h92d := qI (f := za.pv) h92c
         have h92e := qK h92c
         try simp only [List.length_cons, List.length_nil, Nat.zero_add, Nat.reduceAdd] at h92a h92e
         try simp only [h92e] at h92a
         try simp only [List.map_cons, List.map_nil, List.nil_append, List.append_nil, List.cons_append, List.singleton_append, zq, pvE] at h92d
         refine zb fun K kk hK => ?_
         simp only [go_sem, h92a, h92d, h92e, hl0a, hl0b, hl0d, hl0w]
         (repeat refine sd ?_)
         refine hK _ _ fun nx => ?_; clear hK K; try clear kk
         refine zU ?_; refine nmx ?_
         refine zu fun K kk hK => ?_
         simp only [go_sem, hl0a, hl0b, hl0d, hl0w]
         refine hK _ _ fun nx => ?_; clear hK K; try clear kk
         refine nmx ?_
         have ih' := ih (pre ++ [afo]) (W9 + 1) _ _ (by rw [hsplit]; simp) (by simp [hidx]) hh nx
         refine zG ?_
         first | exact ih' _ _ _ _ _ | (simp only [pvE, lsE, zq, h87e, h92e] at ih' ⊢; exact ih' _ _ _ _ _) | (simp only [pvE, lsE, zq, h87e, h92e, h77, h78, h89, h91] at ih' ⊢; exact ih' _ _ _ _ _)
        ·rw [if_neg h91] at hh
         replace h91 := Bool.eq_false_iff.mpr h91
         refine zi (by first | exact congrArg PV.bool h91 | rfl) ?_
         refine zy ?_; refine nmx ?_
         refine zb fun K kk hK => ?_
         simp only [go_sem, hl0a, hl0b, hl0d, hl0w]
         refine hK _ _ fun nx => ?_; clear hK K; try clear kk
         refine zm ?_
         obtain ⟨e9, f9, hh⟩ := zf hh
         refine QR (fun s => .inr () = e9 ∧ ∃ (ax6 : Bool) (nx : Nat) (g2 : Nat) (g3 : Nat) (g4 : Nat) (g5 : Nat) (g11 : Nat) (g332 : Nat) (g381 : Nat), s = ⟨[(0, .list 4 (l_1.map zx.pv)), (2, .box 2 g2 0), (3, .row 3 g3 [([97] : Str), ([98, 99] : Str), ([195, 169] : Str), ([120, 32, 121] : Str), ([230, 151, 165, 230, 156, 172] : Str)].length), (4, .box 4 g4 0), (5, .row 5 g5 ([] : List za).length), (6, .int .i64 W9), (10, .int .i64 (w64 ((Zz.length : Int) - (1 : Int)))), (11, .box 11 g11 0), (108, .bool ax6)], [(2, g2, .var 28 [.str ([] : Str), .str ([] : Str), .list 1 ([].map PV.str), .list 2 ([].map ze.pv), .list 5 ([].map za.pv)]), (3, g3, .row false 1 ([([97] : Str), ([98, 99] : Str), ([195, 169] : Str), ([120, 32, 121] : Str), ([230, 151, 165, 230, 156, 172] : Str)].map PV.str)), (4, g4, .var 28 [.str ([100, 111, 99] : Str), .str ([] : Str), .list 1 ([].map PV.str), .list 2 ([].map ze.pv), .row 332 g332 Zz.length]), (5, g5, .row false 5 (([] : List za).map za.pv)), (11, g11, .var 28 [.str ([105, 116, 101, 109] : Str), .str ([] : Str), .list 1 ([].map PV.str), .list 2 ([].map ze.pv), .row 381 g381 [xP].length]), (332, g332, .row false 5 (Zz.map za.pv)), (381, g381, .row false 5 ([xP].map za.pv))], nx⟩)
          (fun i s => (i = 1 ∧ ∃ aow, .inl aow = e9 ∧ ∃ (nx : Nat) (g2 : Nat) (g3 : Nat) (g4 : Nat) (g5 : Nat) (g332 : Nat), s = ⟨[(0, .list 4 (l_1.map zx.pv)), (2, .box 2 g2 0), (3, .row 3 g3 [([97] : Str), ([98, 99] : Str), ([195, 169] : Str), ([120, 32, 121] : Str), ([230, 151, 165, 230, 156, 172] : Str)].length), (4, .box 4 g4 0), (5, .row 5 g5 ([] : List za).length), (6, .int .i64 W9)], [(2, g2, .var 28 [.str ([] : Str), .str ([] : Str), .list 1 ([].map PV.str), .list 2 ([].map ze.pv), .list 5 ([].map za.pv)]), (3, g3, .row false 1 ([([97] : Str), ([98, 99] : Str), ([195, 169] : Str), ([120, 32, 121] : Str), ([230, 151, 165, 230, 156, 172] : Str)].map PV.str)), (4, g4, .var 28 [.str ([100, 111, 99] : Str), .str ([] : Str), .list 1 ([].map PV.str), .list 2 ([].map ze.pv), .row 332 g332 aow.length]), (5, g5, .row false 5 (([] : List za).map za.pv)), (332, g332, .row false 5 (aow.map za.pv))], nx⟩))
          (fun s => False) ?_ ?_ ?_ ?_
         ·have hh := f9
          by_cases h93 : (decide ((w64 ((Zz.length : Int) - (1 : Int))) ≥ (0 : Int))) = true
          ·rw [if_pos h93] at hh
           obtain ⟨ama, h94, hh⟩ := zf hh
           obtain ⟨h94a, h94b, h94c⟩ := rd_some h94
           have h94d := kE (f := za.pv) h94c
           have h94f := wo (f := za.pv) h94c
           try simp only [Int.toNat_natCast, Int.reduceToNat] at h94d h94f
           by_cases h95 : (ama.Kind == ([108, 105, 115, 116] : Str)) = true
           ·rw [if_pos h95] at hh
            refine zb fun K kk hK => ?_
            simp only [go_sem, h93, of_decide_eq_true h93, h94a, h94b, h94d, h94f.1, h94f.2, h95, hl0a, hl0b, hl0d, hl0w]
            (repeat refine sd ?_)
            refine hK _ _ fun nx => ?_; clear hK K; try clear kk
            by_cases h96 : (X3 == (3 : Int)) = true
            ·rw [if_pos h96] at hh
             refine zn (by first | exact congrArg PV.bool h96 | rfl) ?_
             refine zb fun K kk hK => ?_
             simp only [go_sem, h94a, h94b, h94d, h94f.1, h94f.2, hl0a, hl0b, hl0d, hl0w]
             (repeat refine sd ?_)
             refine hK _ _ fun nx => ?_; clear hK K; try clear kk
             obtain ⟨ao2, h97, hh⟩ := zf hh
             obtain ⟨h97a, h97c⟩ := zV h97
             have h97d := qI (f := za.pv) h97c
             have h97e := qK h97c
             try simp only [List.length_cons, List.length_nil, Nat.zero_add, Nat.reduceAdd] at h97a h97e
             try simp only [h97e] at h97a
             try simp only [List.map_cons, List.map_nil, List.nil_append, List.append_nil, List.cons_append, List.singleton_append, zq, pvE] at h97d
             obtain ⟨avR, h98, hh⟩ := zf hh
             obtain ⟨h98a, h98c⟩ := zV h98
             have h98d := qI (f := za.pv) h98c
             have h98e := qK h98c
             try simp only [List.length_cons, List.length_nil, Nat.zero_add, Nat.reduceAdd] at h98a h98e
             try simp only [h98e] at h98a
             try simp only [List.map_cons, List.map_nil, List.nil_append, List.append_nil, List.cons_append, List.singleton_append, zq, pvE] at h98d
             refine apP (.nrm 11 [none, none, none, none, some 5]) ?_
             refine zb fun K kk hK => ?_
             simp only [go_sem, h97a, h97d, h97e, h98a, h98d, h98e, hl0a, hl0b, hl0d, hl0w]
             (repeat refine sd ?_)
             refine hK _ _ fun nx => ?_; clear hK K; try clear kk
             obtain ⟨av1, h99, hh⟩ := zf hh
             obtain ⟨h99a, h99c⟩ := yP h99
             have h99g := Jn h99a
             have h99d := JD (f := za.pv) h99c
             try simp only [Int.toNat_natCast, Int.reduceToNat, List.map_cons, List.map_nil, pvE] at h99d
             obtain ⟨awc, h100, hh⟩ := zf hh
             obtain ⟨h100a, h100c⟩ := zV h100
             have h100d := qI (f := za.pv) h100c
             have h100e := qK h100c
             try simp only [List.length_cons, List.length_nil, Nat.zero_add, Nat.reduceAdd] at h100a h100e
             try simp only [h100e] at h100a
             try simp only [List.map_cons, List.map_nil, List.nil_append, List.append_nil, List.cons_append, List.singleton_append, zq, pvE] at h100d
             obtain ⟨avE, h101, hh⟩ := zf hh
             obtain ⟨h101a, h101c⟩ := zV h101
             have h101d := qI (f := za.pv) h101c
             have h101e := qK h101c
             try simp only [List.length_cons, List.length_nil, Nat.zero_add, Nat.reduceAdd] at h101a h101e
             try simp only [h101e] at h101a
             try simp only [List.map_cons, List.map_nil, List.nil_append, List.append_nil, List.cons_append, List.singleton_append, zq, pvE] at h101d
             refine zb fun K kk hK => ?_
             simp only [go_sem, h99a.1, h99a.2.1, h99a.2.2, h99d, h99g, h100a, h100d, h100e, h101a, h101d, h101e, hl0a, hl0b, hl0d, hl0w]
             (repeat refine sd ?_)
             refine hK _ _ fun nx => ?_; clear hK K; try clear kk
             refine zU ?_; refine nmx ?_
             refine auo ⟨rfl, _, (Option.some.inj hh), ?_⟩
             first | exact ⟨_, _, _, _, _, _, rfl⟩ | (simp only [pvE, lsE, zq, h87e, h97e, h97d, h98e, h100e, h100d, h101e]; exact ⟨_, _, _, _, _, _, rfl⟩) | (simp only [pvE, lsE, zq, h87e, h97e, h97d, h98e, h100e, h100d, h101e, h77, h78, h89, h91, h93, h95, h96]; exact ⟨_, _, _, _, _, _, rfl⟩)
            ·rw [if_neg h96] at hh
             replace h96 := Bool.eq_false_iff.mpr h96
             refine zi (by first | exact congrArg PV.bool h96 | rfl) ?_
             refine zy ?_; refine nmx ?_
             refine wX ?_
             refine zG ?_
             refine ⟨(Option.some.inj hh), ?_⟩
             first | exact ⟨_, _, _, _, _, _, _, _, _, rfl⟩ | (simp only [pvE, lsE, zq, h87e]; exact ⟨_, _, _, _, _, _, _, _, _, rfl⟩) | (simp only [pvE, lsE, zq, h87e, h77, h78, h89, h91, h93, h95, h96]; exact ⟨_, _, _, _, _, _, _, _, _, rfl⟩)
           ·rw [if_neg h95] at hh
            replace h95 := Bool.eq_false_iff.mpr h95
            refine zb fun K kk hK => ?_
            simp only [go_sem, h93, of_decide_eq_true h93, h94a, h94b, h94d, h94f.1, h94f.2, h95, hl0a, hl0b, hl0d, hl0w]
            (repeat refine sd ?_)
            refine hK _ _ fun nx => ?_; clear hK K; try clear kk
            refine zi rfl ?_
            refine zy ?_; refine nmx ?_
            refine wX ?_
            refine zG ?_
            refine ⟨(Option.some.inj hh), ?_⟩
            first | exact ⟨_, _, _, _, _, _, _, _, _, rfl⟩ | (simp only [pvE, lsE, zq, h87e]; exact ⟨_, _, _, _, _, _, _, _, _, rfl⟩) | (simp only [pvE, lsE, zq, h87e, h77, h78, h89, h91, h93, h95]; exact ⟨_, _, _, _, _, _, _, _, _, rfl⟩)
          ·rw [if_neg h93] at hh
           replace h93 := Bool.eq_false_iff.mpr h93
           refine zb fun K kk hK => ?_
           simp only [go_sem, h93, of_decide_eq_false h93, hl0a, hl0b, hl0d, hl0w]
           (repeat refine sd ?_)
           refine hK _ _ fun nx => ?_; clear hK K; try clear kk
           refine zi rfl ?_
           refine zy ?_; refine nmx ?_
           refine wX ?_
           refine zG ?_
           refine ⟨(Option.some.inj hh), ?_⟩
           first | exact ⟨_, _, _, _, _, _, _, _, _, rfl⟩ | (simp only [pvE, lsE, zq, h87e]; exact ⟨_, _, _, _, _, _, _, _, _, rfl⟩) | (simp only [pvE, lsE, zq, h87e, h77, h78, h89, h91, h93]; exact ⟨_, _, _, _, _, _, _, _, _, rfl⟩)
         ·rintro s ⟨rfl, ax6, nx, g2, g3, g4, g5, g11, g332, g381, rfl⟩
          try dsimp only at hh
          refine zm ?_
          by_cases h102 : (decide ((w64 ((Zz.length : Int) - (1 : Int))) ≥ (0 : Int))) = true
          ·rw [if_pos h102] at hh
           obtain ⟨alZ, h103, hh⟩ := zf hh
           obtain ⟨h103a, h103b, h103c⟩ := rd_some h103
           have h103d := kE (f := za.pv) h103c
           have h103f := wo (f := za.pv) h103c
           try simp only [Int.toNat_natCast, Int.reduceToNat] at h103d h103f
           by_cases h104 : (alZ.Kind == ([108, 105, 115, 116] : Str)) = true
           ·rw [if_pos h104] at hh
            obtain ⟨aaM, h105, hh⟩ := zf hh
            refine zb fun K kk hK => ?_
            simp only [go_sem, h102, of_decide_eq_true h102, h103a, h103b, h103d, h103f.1, h103f.2, h104, hl0a, hl0b, hl0d, hl0w]
            (repeat refine sd ?_)
            refine zg (aaK _ _ h105) (by (try simp only [go_sem, h102, of_decide_eq_true h102, h103a, h103b, h103d, h103f.1, h103f.2, h104, hl0a, hl0b, hl0d, hl0w]) <;> exact wkl) (by rfl) (by rfl) ?_
            simp only [go_sem, h102, of_decide_eq_true h102, h103a, h103b, h103d, h103f.1, h103f.2, h104, hl0a, hl0b, hl0d, hl0w]
            (repeat refine sd ?_)
            refine hK _ _ fun nx => ?_; clear hK K; try clear kk
            by_cases h106 : (decide (aaM < (30 : Int))) = true
            ·rw [if_pos h106] at hh
             refine zn (by first | exact congrArg PV.bool h106 | rfl) ?_
             obtain ⟨avD, h107, hh⟩ := zf hh
             obtain ⟨h107a, h107c⟩ := zV h107
             have h107d := qI (f := za.pv) h107c
             have h107e := (qK h107c).symm
             try simp only [List.length_cons, List.length_nil, Nat.zero_add, Nat.reduceAdd] at h107a h107e
             try simp only [List.map_cons, List.map_nil, List.nil_append, List.append_nil, List.cons_append, List.singleton_append, zq, pvE] at h107d
             have h107g := ank (f := za.pv) h107e
             have h107h := as1 h107e h107a
             refine zb fun K kk hK => ?_
             simp only [go_sem, h103a, h103b, h103d, h103f.1, h103f.2, h107a, h107d, eq_true h107e, eq_true (Nat.le_of_eq h107e.symm), h107g, hl0a, hl0b, hl0d, hl0w]
             (repeat refine sd ?_)
             refine hK _ _ fun nx => ?_; clear hK K; try clear kk
             obtain ⟨avI, h108, hh⟩ := zf hh
             obtain ⟨h108a, h108c⟩ := yP h108
             have h108g := Jn h108a
             have h108d := JD (f := za.pv) h108c
             try simp only [Int.toNat_natCast, Int.reduceToNat, List.map_cons, List.map_nil, pvE] at h108d
             obtain ⟨awk, h109, hh⟩ := zf hh
             obtain ⟨h109a, h109c⟩ := zV h109
             have h109d := qI (f := za.pv) h109c
             have h109e := qK h109c
             try simp only [List.length_cons, List.length_nil, Nat.zero_add, Nat.reduceAdd] at h109a h109e
             try simp only [h109e] at h109a
             try simp only [List.map_cons, List.map_nil, List.nil_append, List.append_nil, List.cons_append, List.singleton_append, zq, pvE] at h109d
             refine zu fun K kk hK => ?_
             simp only [go_sem, h108a.1, h108a.2.1, h108a.2.2, h108d, h108g, h109a, h109d, h109e, eq_true h107e, eq_true (Nat.le_of_eq h107e.symm), h107g, hl0a, hl0b, hl0d, hl0w]
             (repeat refine sd ?_)
             refine hK _ _ fun nx => ?_; clear hK K; try clear kk
             refine nmx ?_
             obtain ⟨avv, h110, hh⟩ := zf hh
             obtain ⟨h110a, h110c⟩ := zV h110
             have h110d := qI (f := za.pv) h110c
             have h110e := qK h110c
             try simp only [List.length_cons, List.length_nil, Nat.zero_add, Nat.reduceAdd] at h110a h110e
             try simp only [h110e] at h110a
             try simp only [List.map_cons, List.map_nil, List.nil_append, List.append_nil, List.cons_append, List.singleton_append, zq, pvE] at h110d
             refine zu fun K kk hK => ?_
             simp only [go_sem, h110a, h110d, h110e, eq_true h107e, eq_true (Nat.le_of_eq h107e.symm), h107g, hl0a, hl0b, hl0d, hl0w]
             (repeat refine sd ?_)
             refine hK _ _ fun nx => ?_; clear hK K; try clear kk
             refine nmx ?_
             refine zu fun K kk hK => ?_
             simp only [go_sem, eq_true h107e, eq_true (Nat.le_of_eq h107e.symm), h107g, hl0a, hl0b, hl0d, hl0w]
             refine hK _ _ fun nx => ?_; clear hK K; try clear kk
             refine nmx ?_
             have ih' := ih (pre ++ [afo]) (W9 + 1) _ _ (by rw [hsplit]; simp) (by simp [hidx]) hh nx
             refine zG ?_
             first | exact ih' _ _ _ _ _ | (simp only [pvE, lsE, zq, h87e, h107e, h109e, h109d, h110e] at ih' ⊢; exact ih' _ _ _ _ _) | (simp only [pvE, lsE, zq, h87e, h107e, h109e, h109d, h110e, h102, h104, h106, h77, h78, h89, h91] at ih' ⊢; exact ih' _ _ _ _ _)
            ·rw [if_neg h106] at hh
             replace h106 := Bool.eq_false_iff.mpr h106
             refine zi (by first | exact congrArg PV.bool h106 | rfl) ?_
             refine zy ?_; refine nmx ?_
             obtain ⟨awo, h111, hh⟩ := zf hh
             obtain ⟨h111a, h111c⟩ := zV h111
             have h111d := qI (f := za.pv) h111c
             have h111e := qK h111c
             try simp only [List.length_cons, List.length_nil, Nat.zero_add, Nat.reduceAdd] at h111a h111e
             try simp only [h111e] at h111a
             try simp only [List.map_cons, List.map_nil, List.nil_append, List.append_nil, List.cons_append, List.singleton_append, zq, pvE] at h111d
             refine zu fun K kk hK => ?_
             simp only [go_sem, h111a, h111d, h111e, hl0a, hl0b, hl0d, hl0w]
             (repeat refine sd ?_)
             refine hK _ _ fun nx => ?_; clear hK K; try clear kk
             refine nmx ?_
             refine zu fun K kk hK => ?_
             simp only [go_sem, hl0a, hl0b, hl0d, hl0w]
             refine hK _ _ fun nx => ?_; clear hK K; try clear kk
             refine nmx ?_
             have ih' := ih (pre ++ [afo]) (W9 + 1) _ _ (by rw [hsplit]; simp) (by simp [hidx]) hh nx
             refine zG ?_
             first | exact ih' _ _ _ _ _ | (simp only [pvE, lsE, zq, h87e, h111e] at ih' ⊢; exact ih' _ _ _ _ _) | (simp only [pvE, lsE, zq, h87e, h111e, h102, h104, h106, h77, h78, h89, h91] at ih' ⊢; exact ih' _ _ _ _ _)
           ·rw [if_neg h104] at hh
            replace h104 := Bool.eq_false_iff.mpr h104
            refine zb fun K kk hK => ?_
            simp only [go_sem, h102, of_decide_eq_true h102, h103a, h103b, h103d, h103f.1, h103f.2, h104, hl0a, hl0b, hl0d, hl0w]
            (repeat refine sd ?_)
            refine hK _ _ fun nx => ?_; clear hK K; try clear kk
            refine zi rfl ?_
            refine zy ?_; refine nmx ?_
            obtain ⟨avw, h112, hh⟩ := zf hh
            obtain ⟨h112a, h112c⟩ := zV h112
            have h112d := qI (f := za.pv) h112c
            have h112e := qK h112c
            try simp only [List.length_cons, List.length_nil, Nat.zero_add, Nat.reduceAdd] at h112a h112e
            try simp only [h112e] at h112a
            try simp only [List.map_cons, List.map_nil, List.nil_append, List.append_nil, List.cons_append, List.singleton_append, zq, pvE] at h112d
            refine zu fun K kk hK => ?_
            simp only [go_sem, h112a, h112d, h112e, hl0a, hl0b, hl0d, hl0w]
            (repeat refine sd ?_)
            refine hK _ _ fun nx => ?_; clear hK K; try clear kk
            refine nmx ?_
            refine zu fun K kk hK => ?_
            simp only [go_sem, hl0a, hl0b, hl0d, hl0w]
            refine hK _ _ fun nx => ?_; clear hK K; try clear kk
            refine nmx ?_
            have ih' := ih (pre ++ [afo]) (W9 + 1) _ _ (by rw [hsplit]; simp) (by simp [hidx]) hh nx
            refine zG ?_
            first | exact ih' _ _ _ _ _ | (simp only [pvE, lsE, zq, h87e, h112e] at ih' ⊢; exact ih' _ _ _ _ _) | (simp only [pvE, lsE, zq, h87e, h112e, h102, h104, h77, h78, h89, h91] at ih' ⊢; exact ih' _ _ _ _ _)
          ·rw [if_neg h102] at hh
           replace h102 := Bool.eq_false_iff.mpr h102
           refine zb fun K kk hK => ?_
           simp only [go_sem, h102, of_decide_eq_false h102, hl0a, hl0b, hl0d, hl0w]
           (repeat refine sd ?_)
           refine hK _ _ fun nx => ?_; clear hK K; try clear kk
           refine zi rfl ?_
           refine zy ?_; refine nmx ?_
           obtain ⟨av3, h113, hh⟩ := zf hh
           obtain ⟨h113a, h113c⟩ := zV h113
           have h113d := qI (f := za.pv) h113c
           have h113e := qK h113c
           try simp only [List.length_cons, List.length_nil, Nat.zero_add, Nat.reduceAdd] at h113a h113e
           try simp only [h113e] at h113a
           try simp only [List.map_cons, List.map_nil, List.nil_append, List.append_nil, List.cons_append, List.singleton_append, zq, pvE] at h113d
           refine zu fun K kk hK => ?_
           simp only [go_sem, h113a, h113d, h113e, hl0a, hl0b, hl0d, hl0w]
           (repeat refine sd ?_)
           refine hK _ _ fun nx => ?_; clear hK K; try clear kk
           refine nmx ?_
           refine zu fun K kk hK => ?_
           simp only [go_sem, hl0a, hl0b, hl0d, hl0w]
           refine hK _ _ fun nx => ?_; clear hK K; try clear kk
           refine nmx ?_
           have ih' := ih (pre ++ [afo]) (W9 + 1) _ _ (by rw [hsplit]; simp) (by simp [hidx]) hh nx
           refine zG ?_
           first | exact ih' _ _ _ _ _ | (simp only [pvE, lsE, zq, h87e, h113e] at ih' ⊢; exact ih' _ _ _ _ _) | (simp only [pvE, lsE, zq, h87e, h113e, h102, h77, h78, h89, h91] at ih' ⊢; exact ih' _ _ _ _ _)
         ·intro i s h
          obtain ⟨rfl, aow, rfl, nx, g2, g3, g4, g5, g332, rfl⟩ := h
          try dsimp only at hh
          refine nmx ?_
          refine zu fun K kk hK => ?_
          simp only [go_sem, hl0a, hl0b, hl0d, hl0w]
          refine hK _ _ fun nx => ?_; clear hK K; try clear kk
          refine nmx ?_
          have ih' := ih (pre ++ [afo]) (W9 + 1) _ _ (by rw [hsplit]; simp) (by simp [hidx]) hh nx
          refine zG ?_
          first | exact ih' _ _ _ _ _ | (simp only [pvE, lsE, zq, h87e] at ih' ⊢; exact ih' _ _ _ _ _) | (simp only [pvE, lsE, zq, h87e, h77, h78, h89, h91] at ih' ⊢; exact ih' _ _ _ _ _)
         ·intro s h; exact h.elim
      ·intro i s h; exact h.elim
      ·intro s h; exact h.elim
     ·intro i s h; exact h.elim
     ·intro s h; exact h.elim
    ·rw [if_neg h78] at hh
     replace h78 := Bool.eq_false_iff.mpr h78
     refine zi (by first | exact congrArg PV.bool h78 | rfl) ?_
     refine zU ?_; refine nmx ?_
     refine wX ?_
     refine zG ?_
     refine ⟨_, (Option.some.inj hh), ?_⟩
     first | exact ⟨_, _, _, _, _, _, _, _, _, rfl⟩ | (simp only [pvE, lsE, zq]; exact ⟨_, _, _, _, _, _, _, _, _, rfl⟩) | (simp only [pvE, lsE, zq, h77, h78]; exact ⟨_, _, _, _, _, _, _, _, _, rfl⟩)
  exact key l_1 [] _ _ _ rfl rfl f0 _ _ _ _ _ _
 ·rintro s ⟨t, hless, asG, rfl, aye, ax8, ah2, nx, g2, g3, g4, g5, g332, rfl⟩
  try dsimp only at hh
  refine nmy ?_
  first | (refine wh hless ?_; try refine ku ?_) | refine qD hless ?_ | refine qE hless ?_
  refine zb fun K kk hK => ?_
  simp only [go_sem]
  refine hK _ _ fun nx => ?_; clear hK K; try clear kk
  refine zk ?_; refine nmx ?_
  obtain hR := Option.some.inj hh
  subst hR
  exact zz
 ·intro i s h; exact h.elim
 ·intro s h; exact h.elim
theorem abl (l : (List Int)) (R : (List Int)) (hh : slices_Clone_int l = some R) : PC Tryd.prog 100 [.list 1 (l.map (PV.int .i64))] (.own 1 (R.map (PV.int .i64))) := by
 rw [slices_Clone_int] at hh
 obtain ⟨ha, hb⟩ := zV hh
 rw [List.nil_append] at hb
 subst hb
 try simp only [List.length_nil, Nat.zero_add] at ha
 refine X7 rfl ?_
 refine zb fun K kk hK => ?_
 simp only [go_sem]
 refine hK _ _ fun nx => ?_; clear hK K; try clear kk
 refine zb fun K kk hK => ?_
 simp only [go_sem]
 refine ⟨fun hnil => hK _ _ fun nx => ?_, hK _ _ fun nx => ?_⟩ <;> (clear hK K; try clear kk)
 ·have hl : l = [] := by simpa using hnil
  subst hl
  first | refine zn rfl ?_ | (refine zm ?_; refine zn rfl ?_)
  refine zb fun K kk hK => ?_
  simp only [go_sem]
  refine hK _ _ fun nx => ?_; clear hK K; try clear kk
  refine zk ?_; refine nmx ?_
  exact Js rfl
 ·first | refine zi rfl ?_ | (refine zm ?_; refine zi rfl ?_)
  refine zy ?_; refine nmx ?_
  refine zb fun K kk hK => ?_
  simp only [go_sem, ha]
  refine hK _ _ fun nx => ?_; clear hK K; try clear kk
  refine zk ?_; refine nmx ?_
  exact X6 (by rfl) (by rfl) (by rfl) (by simp) (by rfl)
end Go.Proofs.YtclohbgnaopjfaaDoor
