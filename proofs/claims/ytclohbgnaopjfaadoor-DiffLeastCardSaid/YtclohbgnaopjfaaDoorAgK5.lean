/- Texts of the proof of diffLeastCard -/
import Derived.Test.YtclohbgnaopjfaaDoorAgC
import Derived.Test.YtclohbgnaopjfaaDoorAgF
import Derived.Test.YtclohbgnaopjfaaDoorAgK3
import Derived.Test.YtclohbgnaopjfaaDoorAgK4
namespace Go.Proofs.YtclohbgnaopjfaaDoor
set_option linter.unusedSimpArgs false
set_option linter.unusedVariables false
open Go
set_option maxRecDepth 100000
theorem aan (l_1 : (List zu)) (R : za) (hh : xH l_1 = some R) : PC Tryd.prog 12 [.list 4 (l_1.map zu.pv)] (.agg [.str R.Kind, .str R.Text, .list 1 (R.Marks.map PV.str), .list 2 (R.zh.map ze.pv), .list 5 (R.Kids.map za.pv)]) := by
 rw [xH] at hh
 refine Xu rfl ?_
 refine zb fun K kk hK => ?_
 simp only [go_sem]
 refine hK _ _ fun nx => ?_; clear hK K; try clear kk
 refine zb fun K kk hK => ?_
 simp only [go_sem]
 refine hK _ _ fun nx => ?_; clear hK K; try clear kk
 refine zb fun K kk hK => ?_
 simp only [go_sem]
 refine hK _ _ fun nx => ?_; clear hK K; try clear kk
 refine zb fun K kk hK => ?_
 simp only [go_sem]
 refine hK _ _ fun nx => ?_; clear hK K; try clear kk
 refine zn ?_
 refine zb fun K kk hK => ?_
 simp only [go_sem]
 refine hK _ _ fun nx => ?_; clear hK K; try clear kk
 obtain ⟨e0, f0, hh⟩ := zf hh
 obtain ⟨hlen0, f0⟩ := qf f0
 refine qH (w9 (fun s => ∃ aqn, aqn = e0 ∧ ∃ (awj : Int) (awy : Bool) (ahE : (List za)) (nx : Nat) (g2 : Nat) (g3 : Nat) (g4 : Nat) (g5 : Nat) (g332 : Nat), s = ⟨[(0, .list 4 (l_1.map zu.pv)), (2, .box 2 g2 0), (3, .row 3 g3 [([97] : Str), ([98, 99] : Str), ([195, 169] : Str), ([120, 32, 121] : Str), ([230, 151, 165, 230, 156, 172] : Str)].length), (4, .box 4 g4 0), (5, .row 5 g5 ahE.length), (6, .int .i64 awj), (22, .bool awy)], [(2, g2, .var 28 [.str ([] : Str), .str ([] : Str), .list 1 ([].map PV.str), .list 2 ([].map ze.pv), .list 5 ([].map za.pv)]), (3, g3, .row false 1 ([([97] : Str), ([98, 99] : Str), ([195, 169] : Str), ([120, 32, 121] : Str), ([230, 151, 165, 230, 156, 172] : Str)].map PV.str)), (4, g4, .var 28 [.str ([100, 111, 99] : Str), .str ([] : Str), .list 1 ([].map PV.str), .list 2 ([].map ze.pv), .row 332 g332 aqn.length]), (5, g5, .row false 5 (ahE.map za.pv)), (332, g332, .row false 5 (aqn.map za.pv))], nx⟩))
  (fun i s => False)
  (fun s => False) ?_ ?_ ?_ ?_
 ·refine zA ?_
  refine qb fun I hI => ?_
  have key : ∀ (suf pre : List zu) (Wi : Int) (yf : (List za)) (Zg : (List za)), l_1 = pre ++ suf → Wi = (pre.length : Int) → zF suf Wi yf Zg = some e0 → ∀ (nx : Nat) (g2 : Nat) (g3 : Nat) (g4 : Nat) (g5 : Nat) (g332 : Nat), I ⟨[(0, .list 4 (l_1.map zu.pv)), (2, .box 2 g2 0), (3, .row 3 g3 [([97] : Str), ([98, 99] : Str), ([195, 169] : Str), ([120, 32, 121] : Str), ([230, 151, 165, 230, 156, 172] : Str)].length), (4, .box 4 g4 0), (5, .row 5 g5 yf.length), (6, .int .i64 Wi)], [(2, g2, .var 28 [.str ([] : Str), .str ([] : Str), .list 1 ([].map PV.str), .list 2 ([].map ze.pv), .list 5 ([].map za.pv)]), (3, g3, .row false 1 ([([97] : Str), ([98, 99] : Str), ([195, 169] : Str), ([120, 32, 121] : Str), ([230, 151, 165, 230, 156, 172] : Str)].map PV.str)), (4, g4, .var 28 [.str ([100, 111, 99] : Str), .str ([] : Str), .list 1 ([].map PV.str), .list 2 ([].map ze.pv), .row 332 g332 Zg.length]), (5, g5, .row false 5 (yf.map za.pv)), (332, g332, .row false 5 (Zg.map za.pv))], nx⟩ := by
   intro suf
   induction suf with
   | nil =>
    intro pre Wi yf Zg hsplit hidx hh nx g2 g3 g4 g5 g332
    rw [zF] at hh
    refine hI _ ?_
    have h77 := walk_nil hsplit hidx
    refine zn ?_
    refine zb fun K kk hK => ?_
    simp only [go_sem, h77, of_decide_eq_false h77]
    (repeat refine sd ?_)
    refine hK _ _ fun nx => ?_; clear hK K; try clear kk
    refine zi rfl ?_
    refine zU ?_; refine nmx ?_
    refine wU ?_
    refine zG ?_
    refine ⟨_, (Option.some.inj hh), ?_⟩
    first | exact ⟨_, _, _, _, _, _, _, _, _, rfl⟩ | (simp only [pvE, lsE, zo]; exact ⟨_, _, _, _, _, _, _, _, _, rfl⟩) | (simp only [pvE, lsE, zo, h77]; exact ⟨_, _, _, _, _, _, _, _, _, rfl⟩)
   | cons adS suf ih =>
    intro pre Wi yf Zg hsplit hidx hh nx g2 g3 g4 g5 g332
    rw [zF] at hh
    refine hI _ ?_
    obtain ⟨hl0a, hl0b, hl0d, hl0w, h77⟩ := qX (f := zu.pv) hsplit hidx hlen0
    refine zn ?_
    refine zb fun K kk hK => ?_
    simp only [go_sem, h77, of_decide_eq_true h77, hl0a, hl0b, hl0d, hl0w]
    (repeat refine sd ?_)
    refine hK _ _ fun nx => ?_; clear hK K; try clear kk
    by_cases h78 : (decide (Wi < (40 : Int))) = true
    ·rw [if_pos h78] at hh
     refine zm (by first | exact congrArg PV.bool h78 | rfl) ?_
     refine zt ?_; refine nmx ?_
     refine zn ?_
     refine zA ?_
     obtain ⟨aom, h79, hh⟩ := zf hh
     obtain ⟨atf, h80, hh⟩ := zf hh
     obtain ⟨h80a, h80b, h80c⟩ := rd_some h80
     have h80d := wN (f := PV.str) h80c
     have h80f := qG (f := PV.str) h80c
     try simp only [Int.toNat_natCast, Int.reduceToNat] at h80d h80f
     simp only [List.length_cons, List.length_nil, List.map_cons, List.map_nil, Nat.zero_add, Nat.reduceAdd, reduceCtorEq, not_false_eq_true, and_true, pvE] at h80b h80d h80f
     refine zb fun K kk hK => ?_
     simp only [go_sem, h80a, h80b, h80d, h80f, hl0a, hl0b, hl0d, hl0w]
     (repeat refine sd ?_)
     refine zg (wV _ _ _ h79) (by (try simp only [go_sem, h80a, h80b, h80d, h80f, hl0a, hl0b, hl0d, hl0w]) <;> exact wkl) (by rfl) (by rfl) ?_
     simp only [go_sem, h80a, h80b, h80d, h80f, hl0a, hl0b, hl0d, hl0w]
     (repeat refine sd ?_)
     refine hK _ _ fun nx => ?_; clear hK K; try clear kk
     refine zn ?_
     obtain ⟨e7, f7, hh⟩ := zf hh
     refine Qv (fun s => ∃ am0, am0 = e7 ∧ ∃ (nx : Nat) (g2 : Nat) (g3 : Nat) (g4 : Nat) (g5 : Nat) (g7 : Nat) (g332 : Nat) (g351 : Nat), s = ⟨[(0, .list 4 (l_1.map zu.pv)), (2, .box 2 g2 0), (3, .row 3 g3 [([97] : Str), ([98, 99] : Str), ([195, 169] : Str), ([120, 32, 121] : Str), ([230, 151, 165, 230, 156, 172] : Str)].length), (4, .box 4 g4 0), (5, .row 5 g5 yf.length), (6, .int .i64 Wi), (7, .box 7 g7 0)], [(2, g2, .var 28 [.str ([] : Str), .str ([] : Str), .list 1 ([].map PV.str), .list 2 ([].map ze.pv), .list 5 ([].map za.pv)]), (3, g3, .row false 1 ([([97] : Str), ([98, 99] : Str), ([195, 169] : Str), ([120, 32, 121] : Str), ([230, 151, 165, 230, 156, 172] : Str)].map PV.str)), (4, g4, .var 28 [.str ([100, 111, 99] : Str), .str ([] : Str), .list 1 ([].map PV.str), .list 2 ([].map ze.pv), .row 332 g332 Zg.length]), (5, g5, .row false 5 (yf.map za.pv)), (7, g7, .var 28 [.str ([116, 101, 120, 116] : Str), .str atf, .row 351 g351 am0.length, .list 2 ([].map ze.pv), .list 5 ([].map za.pv)]), (332, g332, .row false 5 (Zg.map za.pv)), (351, g351, .row false 1 (am0.map PV.str))], nx⟩)
      (fun i s => False)
      (fun s => False) ?_ ?_ ?_ ?_
     ·have hh := f7
      obtain ⟨abZ, h81, hh⟩ := zf hh
      refine zb fun K kk hK => ?_
      simp only [go_sem, hl0a, hl0b, hl0d, hl0w]
      refine zg (wV _ _ _ h81) (by (try simp only [go_sem, hl0a, hl0b, hl0d, hl0w]) <;> exact wkl) (by rfl) (by rfl) ?_
      simp only [go_sem, hl0a, hl0b, hl0d, hl0w]
      refine hK _ _ fun nx => ?_; clear hK K; try clear kk
      by_cases h82 : ((aiw abZ (1 : Int)) == (1 : Int)) = true
      ·rw [if_pos h82] at hh
       refine zm (by first | exact congrArg PV.bool h82 | rfl) ?_
       obtain ⟨am1, h83, hh⟩ := zf hh
       obtain ⟨h83a, h83c⟩ := zW h83
       have h83d := qM (f := PV.str) h83c
       have h83e := (qL h83c).symm
       try simp only [List.length_cons, List.length_nil, Nat.zero_add, Nat.reduceAdd] at h83a h83e
       try simp only [List.map_cons, List.map_nil, List.nil_append, List.append_nil, List.cons_append, List.singleton_append, zo, pvE] at h83d
       have h83g := alv (f := PV.str) h83e
       have h83h := as0 h83e h83a
       refine zq fun K kk hK => ?_
       simp only [go_sem, h83a, h83d, eq_true h83e, eq_true (Nat.le_of_eq h83e.symm), h83g, hl0a, hl0b, hl0d, hl0w]
       (repeat refine sd ?_)
       refine hK _ _ fun nx => ?_; clear hK K; try clear kk
       refine nmx ?_
       refine wU ?_
       refine zG ?_
       refine ⟨_, (Option.some.inj hh), ?_⟩
       first | exact ⟨_, _, _, _, _, _, _, _, rfl⟩ | (simp only [pvE, lsE, zo, h83e]; exact ⟨_, _, _, _, _, _, _, _, rfl⟩) | (simp only [pvE, lsE, zo, h83e, h77, h78, h82]; exact ⟨_, _, _, _, _, _, _, _, rfl⟩)
      ·rw [if_neg h82] at hh
       replace h82 := Bool.eq_false_iff.mpr h82
       refine zi (by first | exact congrArg PV.bool h82 | rfl) ?_
       refine zt ?_; refine nmx ?_
       refine wU ?_
       refine asx (amA _ [0, 2, 3, 4, 5, 6, 7] [2, 3, 4, 5, 7, 332, 351]) ?_
       refine ⟨_, (Option.some.inj hh), ?_⟩
       first | exact ⟨_, _, _, _, _, _, _, _, rfl⟩ | (simp only [pvE, lsE, zo]; exact ⟨_, _, _, _, _, _, _, _, rfl⟩) | (simp only [pvE, lsE, zo, h77, h78, h82]; exact ⟨_, _, _, _, _, _, _, _, rfl⟩)
     ·rintro s ⟨am0, rfl, nx, g2, g3, g4, g5, g7, g332, g351, rfl⟩
      try dsimp only at hh
      refine zn ?_
      obtain ⟨e8, f8, hh⟩ := zf hh
      refine Qv (fun s => ∃ aqf, aqf = e8 ∧ ∃ (nx : Nat) (g2 : Nat) (g3 : Nat) (g4 : Nat) (g5 : Nat) (g7 : Nat) (g332 : Nat) (g351 : Nat), s = ⟨[(0, .list 4 (l_1.map zu.pv)), (2, .box 2 g2 0), (3, .row 3 g3 [([97] : Str), ([98, 99] : Str), ([195, 169] : Str), ([120, 32, 121] : Str), ([230, 151, 165, 230, 156, 172] : Str)].length), (4, .box 4 g4 0), (5, .row 5 g5 yf.length), (6, .int .i64 Wi), (7, .box 7 g7 0)], [(2, g2, .var 28 [.str ([] : Str), .str ([] : Str), .list 1 ([].map PV.str), .list 2 ([].map ze.pv), .list 5 ([].map za.pv)]), (3, g3, .row false 1 ([([97] : Str), ([98, 99] : Str), ([195, 169] : Str), ([120, 32, 121] : Str), ([230, 151, 165, 230, 156, 172] : Str)].map PV.str)), (4, g4, .var 28 [.str ([100, 111, 99] : Str), .str ([] : Str), .list 1 ([].map PV.str), .list 2 ([].map ze.pv), .row 332 g332 Zg.length]), (5, g5, .row false 5 (yf.map za.pv)), (7, g7, .var 28 [.str ([116, 101, 120, 116] : Str), .str atf, .row 351 g351 aqf.length, .list 2 ([].map ze.pv), .list 5 ([].map za.pv)]), (332, g332, .row false 5 (Zg.map za.pv)), (351, g351, .row false 1 (aqf.map PV.str))], nx⟩)
       (fun i s => False)
       (fun s => False) ?_ ?_ ?_ ?_
      ·have hh := f8
       obtain ⟨acC, h84, hh⟩ := zf hh
       refine zb fun K kk hK => ?_
       simp only [go_sem, hl0a, hl0b, hl0d, hl0w]
       refine zg (wV _ _ _ h84) (by (try simp only [go_sem, hl0a, hl0b, hl0d, hl0w]) <;> exact wkl) (by rfl) (by rfl) ?_
       simp only [go_sem, hl0a, hl0b, hl0d, hl0w]
       refine hK _ _ fun nx => ?_; clear hK K; try clear kk
       by_cases h85 : ((aiw acC (2 : Int)) == (2 : Int)) = true
       ·rw [if_pos h85] at hh
        refine zm (by first | exact congrArg PV.bool h85 | rfl) ?_
        obtain ⟨atU, h86, hh⟩ := zf hh
        obtain ⟨h86a, h86c⟩ := zW h86
        have h86d := qM (f := PV.str) h86c
        have h86e := qL h86c
        try simp only [List.length_cons, List.length_nil, Nat.zero_add, Nat.reduceAdd] at h86a h86e
        try simp only [h86e] at h86a
        try simp only [List.map_cons, List.map_nil, List.nil_append, List.append_nil, List.cons_append, List.singleton_append, zo, pvE] at h86d
        refine zq fun K kk hK => ?_
        simp only [go_sem, h86a, h86d, h86e, hl0a, hl0b, hl0d, hl0w]
        (repeat refine sd ?_)
        refine hK _ _ fun nx => ?_; clear hK K; try clear kk
        refine nmx ?_
        refine wU ?_
        refine zG ?_
        refine ⟨_, (Option.some.inj hh), ?_⟩
        first | exact ⟨_, _, _, _, _, _, _, _, rfl⟩ | (simp only [pvE, lsE, zo, h86e]; exact ⟨_, _, _, _, _, _, _, _, rfl⟩) | (simp only [pvE, lsE, zo, h86e, h77, h78, h85]; exact ⟨_, _, _, _, _, _, _, _, rfl⟩)
       ·rw [if_neg h85] at hh
        replace h85 := Bool.eq_false_iff.mpr h85
        refine zi (by first | exact congrArg PV.bool h85 | rfl) ?_
        refine zt ?_; refine nmx ?_
        refine wU ?_
        refine asx (amA _ [0, 2, 3, 4, 5, 6, 7] [2, 3, 4, 5, 7, 332, 351]) ?_
        refine ⟨_, (Option.some.inj hh), ?_⟩
        first | exact ⟨_, _, _, _, _, _, _, _, rfl⟩ | (simp only [pvE, lsE, zo]; exact ⟨_, _, _, _, _, _, _, _, rfl⟩) | (simp only [pvE, lsE, zo, h77, h78, h85]; exact ⟨_, _, _, _, _, _, _, _, rfl⟩)
      ·rintro s ⟨aqf, rfl, nx, g2, g3, g4, g5, g7, g332, g351, rfl⟩
       try dsimp only at hh
       obtain ⟨Yf, h87, hh⟩ := zf hh
       obtain ⟨h87a, h87c⟩ := zW h87
       have h87d := qM (f := za.pv) h87c
       have h87e := qL h87c
       try simp only [List.length_cons, List.length_nil, Nat.zero_add, Nat.reduceAdd] at h87a h87e
       try simp only [h87e] at h87a
       try simp only [List.map_cons, List.map_nil, List.nil_append, List.append_nil, List.cons_append, List.singleton_append, zo, pvE] at h87d
       refine zb fun K kk hK => ?_
       simp only [go_sem, h87a, h87d, h87e, hl0a, hl0b, hl0d, hl0w]
       (repeat refine sd ?_)
       refine hK _ _ fun nx => ?_; clear hK K; try clear kk
       obtain ⟨Xp, h88, hh⟩ := zf hh
       refine zb fun K kk hK => ?_
       simp only [go_sem, hl0a, hl0b, hl0d, hl0w]
       refine zg (wV _ _ _ h88) (by (try simp only [go_sem, hl0a, hl0b, hl0d, hl0w]) <;> exact wkl) (by rfl) (by rfl) ?_
       simp only [go_sem, hl0a, hl0b, hl0d, hl0w]
       refine hK _ _ fun nx => ?_; clear hK K; try clear kk
       refine zn ?_
       refine zb fun K kk hK => ?_
       simp only [go_sem, hl0a, hl0b, hl0d, hl0w]
       refine hK _ _ fun nx => ?_; clear hK K; try clear kk
       by_cases h89 : (Xp == (0 : Int)) = true
       ·rw [if_pos h89] at hh
        refine zm (by first | exact congrArg PV.bool h89 | rfl) ?_
        refine zU ?_; refine nmx ?_
        refine zq fun K kk hK => ?_
        simp only [go_sem, hl0a, hl0b, hl0d, hl0w]
        refine hK _ _ fun nx => ?_; clear hK K; try clear kk
        refine nmx ?_
        have ih' := ih (pre ++ [adS]) (Wi + 1) _ _ (by rw [hsplit]; simp) (by simp [hidx]) hh nx
        refine zG ?_
        first | exact ih' _ _ _ _ _ | (simp only [pvE, lsE, zo, h87e] at ih' ⊢; exact ih' _ _ _ _ _) | (simp only [pvE, lsE, zo, h87e, h77, h78, h89] at ih' ⊢; exact ih' _ _ _ _ _)
       ·rw [if_neg h89] at hh
        replace h89 := Bool.eq_false_iff.mpr h89
        refine zi (by first | exact congrArg PV.bool h89 | rfl) ?_
        refine zt ?_; refine nmx ?_
        obtain ⟨xx, h90, hh⟩ := zf hh
        refine zb fun K kk hK => ?_
        simp only [go_sem, hl0a, hl0b, hl0d, hl0w]
        refine zg (Yv _ _ _ h90) (by (try simp only [go_sem, hl0a, hl0b, hl0d, hl0w]) <;> exact wkl) (by rfl) (by rfl) ?_
        simp only [go_sem, hl0a, hl0b, hl0d, hl0w]
        refine hK _ _ fun nx => ?_; clear hK K; try clear kk
        refine zb fun K kk hK => ?_
        simp only [go_sem, hl0a, hl0b, hl0d, hl0w]
        refine hK _ _ fun nx => ?_; clear hK K; try clear kk
        refine zb fun K kk hK => ?_
        simp only [go_sem, hl0a, hl0b, hl0d, hl0w]
        refine hK _ _ fun nx => ?_; clear hK K; try clear kk
        refine zn ?_
        refine zb fun K kk hK => ?_
        simp only [go_sem, hl0a, hl0b, hl0d, hl0w]
        refine hK _ _ fun nx => ?_; clear hK K; try clear kk
        by_cases h91 : (decide (Xp < (3 : Int))) = true
        ·rw [if_pos h91] at hh
         refine zm (by first | exact congrArg PV.bool h91 | rfl) ?_
         obtain ⟨atd, h92, hh⟩ := zf hh
         obtain ⟨h92a, h92c⟩ := zW h92
         have h92d := qM (f := za.pv) h92c
         have h92e := qL h92c
         try simp only [List.length_cons, List.length_nil, Nat.zero_add, Nat.reduceAdd] at h92a h92e
         try simp only [h92e] at h92a
         try simp only [List.map_cons, List.map_nil, List.nil_append, List.append_nil, List.cons_append, List.singleton_append, zo, pvE] at h92d
         refine zb fun K kk hK => ?_
         simp only [go_sem, h92a, h92d, h92e, hl0a, hl0b, hl0d, hl0w]
         (repeat refine sd ?_)
         refine hK _ _ fun nx => ?_; clear hK K; try clear kk
         refine zU ?_; refine nmx ?_
         refine zq fun K kk hK => ?_
         simp only [go_sem, hl0a, hl0b, hl0d, hl0w]
         refine hK _ _ fun nx => ?_; clear hK K; try clear kk
         refine nmx ?_
         have ih' := ih (pre ++ [adS]) (Wi + 1) _ _ (by rw [hsplit]; simp) (by simp [hidx]) hh nx
         refine zG ?_
         first | exact ih' _ _ _ _ _ | (simp only [pvE, lsE, zo, h87e, h92e] at ih' ⊢; exact ih' _ _ _ _ _) | (simp only [pvE, lsE, zo, h87e, h92e, h77, h78, h89, h91] at ih' ⊢; exact ih' _ _ _ _ _)
        ·rw [if_neg h91] at hh
         replace h91 := Bool.eq_false_iff.mpr h91
         refine zi (by first | exact congrArg PV.bool h91 | rfl) ?_
         refine zt ?_; refine nmx ?_
         refine zb fun K kk hK => ?_
         simp only [go_sem, hl0a, hl0b, hl0d, hl0w]
         refine hK _ _ fun nx => ?_; clear hK K; try clear kk
         refine zn ?_
         obtain ⟨e9, f9, hh⟩ := zf hh
         refine Qv (fun s => .inr () = e9 ∧ ∃ (awH : Bool) (nx : Nat) (g2 : Nat) (g3 : Nat) (g4 : Nat) (g5 : Nat) (g11 : Nat) (g332 : Nat) (g381 : Nat), s = ⟨[(0, .list 4 (l_1.map zu.pv)), (2, .box 2 g2 0), (3, .row 3 g3 [([97] : Str), ([98, 99] : Str), ([195, 169] : Str), ([120, 32, 121] : Str), ([230, 151, 165, 230, 156, 172] : Str)].length), (4, .box 4 g4 0), (5, .row 5 g5 ([] : List za).length), (6, .int .i64 Wi), (10, .int .i64 (w64 ((Zg.length : Int) - (1 : Int)))), (11, .box 11 g11 0), (108, .bool awH)], [(2, g2, .var 28 [.str ([] : Str), .str ([] : Str), .list 1 ([].map PV.str), .list 2 ([].map ze.pv), .list 5 ([].map za.pv)]), (3, g3, .row false 1 ([([97] : Str), ([98, 99] : Str), ([195, 169] : Str), ([120, 32, 121] : Str), ([230, 151, 165, 230, 156, 172] : Str)].map PV.str)), (4, g4, .var 28 [.str ([100, 111, 99] : Str), .str ([] : Str), .list 1 ([].map PV.str), .list 2 ([].map ze.pv), .row 332 g332 Zg.length]), (5, g5, .row false 5 (([] : List za).map za.pv)), (11, g11, .var 28 [.str ([105, 116, 101, 109] : Str), .str ([] : Str), .list 1 ([].map PV.str), .list 2 ([].map ze.pv), .row 381 g381 [xx].length]), (332, g332, .row false 5 (Zg.map za.pv)), (381, g381, .row false 5 ([xx].map za.pv))], nx⟩)
          (fun i s => (i = 1 ∧ ∃ alf, .inl alf = e9 ∧ ∃ (nx : Nat) (g2 : Nat) (g3 : Nat) (g4 : Nat) (g5 : Nat) (g332 : Nat), s = ⟨[(0, .list 4 (l_1.map zu.pv)), (2, .box 2 g2 0), (3, .row 3 g3 [([97] : Str), ([98, 99] : Str), ([195, 169] : Str), ([120, 32, 121] : Str), ([230, 151, 165, 230, 156, 172] : Str)].length), (4, .box 4 g4 0), (5, .row 5 g5 ([] : List za).length), (6, .int .i64 Wi)], [(2, g2, .var 28 [.str ([] : Str), .str ([] : Str), .list 1 ([].map PV.str), .list 2 ([].map ze.pv), .list 5 ([].map za.pv)]), (3, g3, .row false 1 ([([97] : Str), ([98, 99] : Str), ([195, 169] : Str), ([120, 32, 121] : Str), ([230, 151, 165, 230, 156, 172] : Str)].map PV.str)), (4, g4, .var 28 [.str ([100, 111, 99] : Str), .str ([] : Str), .list 1 ([].map PV.str), .list 2 ([].map ze.pv), .row 332 g332 alf.length]), (5, g5, .row false 5 (([] : List za).map za.pv)), (332, g332, .row false 5 (alf.map za.pv))], nx⟩))
          (fun s => False) ?_ ?_ ?_ ?_
         ·have hh := f9
          by_cases h93 : (decide ((w64 ((Zg.length : Int) - (1 : Int))) ≥ (0 : Int))) = true
          ·rw [if_pos h93] at hh
           obtain ⟨ajX, h94, hh⟩ := zf hh
           obtain ⟨h94a, h94b, h94c⟩ := rd_some h94
           have h94d := wN (f := za.pv) h94c
           have h94f := qG (f := za.pv) h94c
           try simp only [Int.toNat_natCast, Int.reduceToNat] at h94d h94f
           by_cases h95 : (ajX.Kind == ([108, 105, 115, 116] : Str)) = true
           ·rw [if_pos h95] at hh
            refine zb fun K kk hK => ?_
            simp only [go_sem, h93, of_decide_eq_true h93, h94a, h94b, h94d, h94f.1, h94f.2, h95, hl0a, hl0b, hl0d, hl0w]
            (repeat refine sd ?_)
            refine hK _ _ fun nx => ?_; clear hK K; try clear kk
            by_cases h96 : (Xp == (3 : Int)) = true
            ·rw [if_pos h96] at hh
             refine zm (by first | exact congrArg PV.bool h96 | rfl) ?_
             refine zb fun K kk hK => ?_
             simp only [go_sem, h94a, h94b, h94d, h94f.1, h94f.2, hl0a, hl0b, hl0d, hl0w]
             (repeat refine sd ?_)
             refine hK _ _ fun nx => ?_; clear hK K; try clear kk
             obtain ⟨am5, h97, hh⟩ := zf hh
             obtain ⟨h97a, h97c⟩ := zW h97
             have h97d := qM (f := za.pv) h97c
             have h97e := qL h97c
             try simp only [List.length_cons, List.length_nil, Nat.zero_add, Nat.reduceAdd] at h97a h97e
             try simp only [h97e] at h97a
             try simp only [List.map_cons, List.map_nil, List.nil_append, List.append_nil, List.cons_append, List.singleton_append, zo, pvE] at h97d
             obtain ⟨ati, h98, hh⟩ := zf hh
             obtain ⟨h98a, h98c⟩ := zW h98
             have h98d := qM (f := za.pv) h98c
             have h98e := qL h98c
             try simp only [List.length_cons, List.length_nil, Nat.zero_add, Nat.reduceAdd] at h98a h98e
             try simp only [h98e] at h98a
             try simp only [List.map_cons, List.map_nil, List.nil_append, List.append_nil, List.cons_append, List.singleton_append, zo, pvE] at h98d
             refine anv (.nrm 11 [none, none, none, none, some 5]) ?_
             refine zb fun K kk hK => ?_
             simp only [go_sem, h97a, h97d, h97e, h98a, h98d, h98e, hl0a, hl0b, hl0d, hl0w]
             (repeat refine sd ?_)
             refine hK _ _ fun nx => ?_; clear hK K; try clear kk
             obtain ⟨aue, h99, hh⟩ := zf hh
             obtain ⟨h99a, h99c⟩ := yn h99
             have h99g := VW h99a
             have h99d := V3 (f := za.pv) h99c
             try simp only [Int.toNat_natCast, Int.reduceToNat, List.map_cons, List.map_nil, pvE] at h99d
             obtain ⟨atq, h100, hh⟩ := zf hh
             obtain ⟨h100a, h100c⟩ := zW h100
             have h100d := qM (f := za.pv) h100c
             have h100e := qL h100c
             try simp only [List.length_cons, List.length_nil, Nat.zero_add, Nat.reduceAdd] at h100a h100e
             try simp only [h100e] at h100a
             try simp only [List.map_cons, List.map_nil, List.nil_append, List.append_nil, List.cons_append, List.singleton_append, zo, pvE] at h100d
             obtain ⟨atn, h101, hh⟩ := zf hh
             obtain ⟨h101a, h101c⟩ := zW h101
             have h101d := qM (f := za.pv) h101c
             have h101e := qL h101c
             try simp only [List.length_cons, List.length_nil, Nat.zero_add, Nat.reduceAdd] at h101a h101e
             try simp only [h101e] at h101a
             try simp only [List.map_cons, List.map_nil, List.nil_append, List.append_nil, List.cons_append, List.singleton_append, zo, pvE] at h101d
             refine zb fun K kk hK => ?_
             simp only [go_sem, h99a.1, h99a.2.1, h99a.2.2, h99d, h99g, h100a, h100d, h100e, h101a, h101d, h101e, hl0a, hl0b, hl0d, hl0w]
             (repeat refine sd ?_)
             refine hK _ _ fun nx => ?_; clear hK K; try clear kk
             refine zU ?_; refine nmx ?_
             refine as3 ⟨rfl, _, (Option.some.inj hh), ?_⟩
             first | exact ⟨_, _, _, _, _, _, rfl⟩ | (simp only [pvE, lsE, zo, h87e, h97e, h97d, h98e, h100e, h100d, h101e]; exact ⟨_, _, _, _, _, _, rfl⟩) | (simp only [pvE, lsE, zo, h87e, h97e, h97d, h98e, h100e, h100d, h101e, h77, h78, h89, h91, h93, h95, h96]; exact ⟨_, _, _, _, _, _, rfl⟩)
            ·rw [if_neg h96] at hh
             replace h96 := Bool.eq_false_iff.mpr h96
             refine zi (by first | exact congrArg PV.bool h96 | rfl) ?_
             refine zt ?_; refine nmx ?_
             refine wU ?_
             refine zG ?_
             refine ⟨(Option.some.inj hh), ?_⟩
             first | exact ⟨_, _, _, _, _, _, _, _, _, rfl⟩ | (simp only [pvE, lsE, zo, h87e]; exact ⟨_, _, _, _, _, _, _, _, _, rfl⟩) | (simp only [pvE, lsE, zo, h87e, h77, h78, h89, h91, h93, h95, h96]; exact ⟨_, _, _, _, _, _, _, _, _, rfl⟩)
           ·rw [if_neg h95] at hh
            replace h95 := Bool.eq_false_iff.mpr h95
            refine zb fun K kk hK => ?_
            simp only [go_sem, h93, of_decide_eq_true h93, h94a, h94b, h94d, h94f.1, h94f.2, h95, hl0a, hl0b, hl0d, hl0w]
            (repeat refine sd ?_)
            refine hK _ _ fun nx => ?_; clear hK K; try clear kk
            refine zi rfl ?_
            refine zt ?_; refine nmx ?_
            refine wU ?_
            refine zG ?_
            refine ⟨(Option.some.inj hh), ?_⟩
            first | exact ⟨_, _, _, _, _, _, _, _, _, rfl⟩ | (simp only [pvE, lsE, zo, h87e]; exact ⟨_, _, _, _, _, _, _, _, _, rfl⟩) | (simp only [pvE, lsE, zo, h87e, h77, h78, h89, h91, h93, h95]; exact ⟨_, _, _, _, _, _, _, _, _, rfl⟩)
          ·rw [if_neg h93] at hh
           replace h93 := Bool.eq_false_iff.mpr h93
           refine zb fun K kk hK => ?_
           simp only [go_sem, h93, of_decide_eq_false h93, hl0a, hl0b, hl0d, hl0w]
           (repeat refine sd ?_)
           refine hK _ _ fun nx => ?_; clear hK K; try clear kk
           refine zi rfl ?_
           refine zt ?_; refine nmx ?_
           refine wU ?_
           refine zG ?_
           refine ⟨(Option.some.inj hh), ?_⟩
           first | exact ⟨_, _, _, _, _, _, _, _, _, rfl⟩ | (simp only [pvE, lsE, zo, h87e]; exact ⟨_, _, _, _, _, _, _, _, _, rfl⟩) | (simp only [pvE, lsE, zo, h87e, h77, h78, h89, h91, h93]; exact ⟨_, _, _, _, _, _, _, _, _, rfl⟩)
         ·rintro s ⟨rfl, awH, nx, g2, g3, g4, g5, g11, g332, g381, rfl⟩
          try dsimp only at hh
          refine zn ?_
          by_cases h102 : (decide ((w64 ((Zg.length : Int) - (1 : Int))) ≥ (0 : Int))) = true
          ·rw [if_pos h102] at hh
           obtain ⟨akR, h103, hh⟩ := zf hh
           obtain ⟨h103a, h103b, h103c⟩ := rd_some h103
           have h103d := wN (f := za.pv) h103c
           have h103f := qG (f := za.pv) h103c
           try simp only [Int.toNat_natCast, Int.reduceToNat] at h103d h103f
           by_cases h104 : (akR.Kind == ([108, 105, 115, 116] : Str)) = true
           ·rw [if_pos h104] at hh
            obtain ⟨YF, h105, hh⟩ := zf hh
            refine zb fun K kk hK => ?_
            simp only [go_sem, h102, of_decide_eq_true h102, h103a, h103b, h103d, h103f.1, h103f.2, h104, hl0a, hl0b, hl0d, hl0w]
            (repeat refine sd ?_)
            refine zg (Yc _ _ h105) (by (try simp only [go_sem, h102, of_decide_eq_true h102, h103a, h103b, h103d, h103f.1, h103f.2, h104, hl0a, hl0b, hl0d, hl0w]) <;> exact wkl) (by rfl) (by rfl) ?_
            simp only [go_sem, h102, of_decide_eq_true h102, h103a, h103b, h103d, h103f.1, h103f.2, h104, hl0a, hl0b, hl0d, hl0w]
            (repeat refine sd ?_)
            refine hK _ _ fun nx => ?_; clear hK K; try clear kk
            by_cases h106 : (decide (YF < (30 : Int))) = true
            ·rw [if_pos h106] at hh
             refine zm (by first | exact congrArg PV.bool h106 | rfl) ?_
             obtain ⟨atG, h107, hh⟩ := zf hh
             obtain ⟨h107a, h107c⟩ := zW h107
             have h107d := qM (f := za.pv) h107c
             have h107e := (qL h107c).symm
             try simp only [List.length_cons, List.length_nil, Nat.zero_add, Nat.reduceAdd] at h107a h107e
             try simp only [List.map_cons, List.map_nil, List.nil_append, List.append_nil, List.cons_append, List.singleton_append, zo, pvE] at h107d
             have h107g := alv (f := za.pv) h107e
             have h107h := as0 h107e h107a
             refine zb fun K kk hK => ?_
             simp only [go_sem, h103a, h103b, h103d, h103f.1, h103f.2, h107a, h107d, eq_true h107e, eq_true (Nat.le_of_eq h107e.symm), h107g, hl0a, hl0b, hl0d, hl0w]
             (repeat refine sd ?_)
             refine hK _ _ fun nx => ?_; clear hK K; try clear kk
             obtain ⟨at1, h108, hh⟩ := zf hh
             obtain ⟨h108a, h108c⟩ := yn h108
             have h108g := VW h108a
             have h108d := V3 (f := za.pv) h108c
             try simp only [Int.toNat_natCast, Int.reduceToNat, List.map_cons, List.map_nil, pvE] at h108d
             obtain ⟨aum, h109, hh⟩ := zf hh
             obtain ⟨h109a, h109c⟩ := zW h109
             have h109d := qM (f := za.pv) h109c
             have h109e := qL h109c
             try simp only [List.length_cons, List.length_nil, Nat.zero_add, Nat.reduceAdd] at h109a h109e
             try simp only [h109e] at h109a
             try simp only [List.map_cons, List.map_nil, List.nil_append, List.append_nil, List.cons_append, List.singleton_append, zo, pvE] at h109d
             refine zq fun K kk hK => ?_
             simp only [go_sem, h108a.1, h108a.2.1, h108a.2.2, h108d, h108g, h109a, h109d, h109e, eq_true h107e, eq_true (Nat.le_of_eq h107e.symm), h107g, hl0a, hl0b, hl0d, hl0w]
             (repeat refine sd ?_)
             refine hK _ _ fun nx => ?_; clear hK K; try clear kk
             refine nmx ?_
             obtain ⟨atv, h110, hh⟩ := zf hh
             obtain ⟨h110a, h110c⟩ := zW h110
             have h110d := qM (f := za.pv) h110c
             have h110e := qL h110c
             try simp only [List.length_cons, List.length_nil, Nat.zero_add, Nat.reduceAdd] at h110a h110e
             try simp only [h110e] at h110a
             try simp only [List.map_cons, List.map_nil, List.nil_append, List.append_nil, List.cons_append, List.singleton_append, zo, pvE] at h110d
             refine zq fun K kk hK => ?_
             simp only [go_sem, h110a, h110d, h110e, eq_true h107e, eq_true (Nat.le_of_eq h107e.symm), h107g, hl0a, hl0b, hl0d, hl0w]
             (repeat refine sd ?_)
             refine hK _ _ fun nx => ?_; clear hK K; try clear kk
             refine nmx ?_
             refine zq fun K kk hK => ?_
             simp only [go_sem, eq_true h107e, eq_true (Nat.le_of_eq h107e.symm), h107g, hl0a, hl0b, hl0d, hl0w]
             refine hK _ _ fun nx => ?_; clear hK K; try clear kk
             refine nmx ?_
             have ih' := ih (pre ++ [adS]) (Wi + 1) _ _ (by rw [hsplit]; simp) (by simp [hidx]) hh nx
             refine zG ?_
             first | exact ih' _ _ _ _ _ | (simp only [pvE, lsE, zo, h87e, h107e, h109e, h109d, h110e] at ih' ⊢; exact ih' _ _ _ _ _) | (simp only [pvE, lsE, zo, h87e, h107e, h109e, h109d, h110e, h102, h104, h106, h77, h78, h89, h91] at ih' ⊢; exact ih' _ _ _ _ _)
            ·rw [if_neg h106] at hh
             replace h106 := Bool.eq_false_iff.mpr h106
             refine zi (by first | exact congrArg PV.bool h106 | rfl) ?_
             refine zt ?_; refine nmx ?_
             obtain ⟨aui, h111, hh⟩ := zf hh
             obtain ⟨h111a, h111c⟩ := zW h111
             have h111d := qM (f := za.pv) h111c
             have h111e := qL h111c
             try simp only [List.length_cons, List.length_nil, Nat.zero_add, Nat.reduceAdd] at h111a h111e
             try simp only [h111e] at h111a
             try simp only [List.map_cons, List.map_nil, List.nil_append, List.append_nil, List.cons_append, List.singleton_append, zo, pvE] at h111d
             refine zq fun K kk hK => ?_
             simp only [go_sem, h111a, h111d, h111e, hl0a, hl0b, hl0d, hl0w]
             (repeat refine sd ?_)
             refine hK _ _ fun nx => ?_; clear hK K; try clear kk
             refine nmx ?_
             refine zq fun K kk hK => ?_
             simp only [go_sem, hl0a, hl0b, hl0d, hl0w]
             refine hK _ _ fun nx => ?_; clear hK K; try clear kk
             refine nmx ?_
             have ih' := ih (pre ++ [adS]) (Wi + 1) _ _ (by rw [hsplit]; simp) (by simp [hidx]) hh nx
             refine zG ?_
             first | exact ih' _ _ _ _ _ | (simp only [pvE, lsE, zo, h87e, h111e] at ih' ⊢; exact ih' _ _ _ _ _) | (simp only [pvE, lsE, zo, h87e, h111e, h102, h104, h106, h77, h78, h89, h91] at ih' ⊢; exact ih' _ _ _ _ _)
           ·rw [if_neg h104] at hh
            replace h104 := Bool.eq_false_iff.mpr h104
            refine zb fun K kk hK => ?_
            simp only [go_sem, h102, of_decide_eq_true h102, h103a, h103b, h103d, h103f.1, h103f.2, h104, hl0a, hl0b, hl0d, hl0w]
            (repeat refine sd ?_)
            refine hK _ _ fun nx => ?_; clear hK K; try clear kk
            refine zi rfl ?_
            refine zt ?_; refine nmx ?_
            obtain ⟨atI, h112, hh⟩ := zf hh
            obtain ⟨h112a, h112c⟩ := zW h112
            have h112d := qM (f := za.pv) h112c
            have h112e := qL h112c
            try simp only [List.length_cons, List.length_nil, Nat.zero_add, Nat.reduceAdd] at h112a h112e
            try simp only [h112e] at h112a
            try simp only [List.map_cons, List.map_nil, List.nil_append, List.append_nil, List.cons_append, List.singleton_append, zo, pvE] at h112d
            refine zq fun K kk hK => ?_
            simp only [go_sem, h112a, h112d, h112e, hl0a, hl0b, hl0d, hl0w]
            (repeat refine sd ?_)
            refine hK _ _ fun nx => ?_; clear hK K; try clear kk
            refine nmx ?_
            refine zq fun K kk hK => ?_
            simp only [go_sem, hl0a, hl0b, hl0d, hl0w]
            refine hK _ _ fun nx => ?_; clear hK K; try clear kk
            refine nmx ?_
            have ih' := ih (pre ++ [adS]) (Wi + 1) _ _ (by rw [hsplit]; simp) (by simp [hidx]) hh nx
            refine zG ?_
            first | exact ih' _ _ _ _ _ | (simp only [pvE, lsE, zo, h87e, h112e] at ih' ⊢; exact ih' _ _ _ _ _) | (simp only [pvE, lsE, zo, h87e, h112e, h102, h104, h77, h78, h89, h91] at ih' ⊢; exact ih' _ _ _ _ _)
          ·rw [if_neg h102] at hh
           replace h102 := Bool.eq_false_iff.mpr h102
           refine zb fun K kk hK => ?_
           simp only [go_sem, h102, of_decide_eq_false h102, hl0a, hl0b, hl0d, hl0w]
           (repeat refine sd ?_)
           refine hK _ _ fun nx => ?_; clear hK K; try clear kk
           refine zi rfl ?_
           refine zt ?_; refine nmx ?_
           obtain ⟨aua, h113, hh⟩ := zf hh
           obtain ⟨h113a, h113c⟩ := zW h113
           have h113d := qM (f := za.pv) h113c
           have h113e := qL h113c
           try simp only [List.length_cons, List.length_nil, Nat.zero_add, Nat.reduceAdd] at h113a h113e
           try simp only [h113e] at h113a
           try simp only [List.map_cons, List.map_nil, List.nil_append, List.append_nil, List.cons_append, List.singleton_append, zo, pvE] at h113d
           refine zq fun K kk hK => ?_
           simp only [go_sem, h113a, h113d, h113e, hl0a, hl0b, hl0d, hl0w]
           (repeat refine sd ?_)
           refine hK _ _ fun nx => ?_; clear hK K; try clear kk
           refine nmx ?_
           refine zq fun K kk hK => ?_
           simp only [go_sem, hl0a, hl0b, hl0d, hl0w]
           refine hK _ _ fun nx => ?_; clear hK K; try clear kk
           refine nmx ?_
           have ih' := ih (pre ++ [adS]) (Wi + 1) _ _ (by rw [hsplit]; simp) (by simp [hidx]) hh nx
           refine zG ?_
           first | exact ih' _ _ _ _ _ | (simp only [pvE, lsE, zo, h87e, h113e] at ih' ⊢; exact ih' _ _ _ _ _) | (simp only [pvE, lsE, zo, h87e, h113e, h102, h77, h78, h89, h91] at ih' ⊢; exact ih' _ _ _ _ _)
         ·intro i s h
          obtain ⟨rfl, alf, rfl, nx, g2, g3, g4, g5, g332, rfl⟩ := h
          try dsimp only at hh
          refine nmx ?_
          refine zq fun K kk hK => ?_
          simp only [go_sem, hl0a, hl0b, hl0d, hl0w]
          refine hK _ _ fun nx => ?_; clear hK K; try clear kk
          refine nmx ?_
          have ih' := ih (pre ++ [adS]) (Wi + 1) _ _ (by rw [hsplit]; simp) (by simp [hidx]) hh nx
          refine zG ?_
          first | exact ih' _ _ _ _ _ | (simp only [pvE, lsE, zo, h87e] at ih' ⊢; exact ih' _ _ _ _ _) | (simp only [pvE, lsE, zo, h87e, h77, h78, h89, h91] at ih' ⊢; exact ih' _ _ _ _ _)
         ·intro s h; exact h.elim
      ·intro i s h; exact h.elim
      ·intro s h; exact h.elim
     ·intro i s h; exact h.elim
     ·intro s h; exact h.elim
    ·rw [if_neg h78] at hh
     replace h78 := Bool.eq_false_iff.mpr h78
     refine zi (by first | exact congrArg PV.bool h78 | rfl) ?_
     refine zU ?_; refine nmx ?_
     refine wU ?_
     refine zG ?_
     refine ⟨_, (Option.some.inj hh), ?_⟩
     first | exact ⟨_, _, _, _, _, _, _, _, _, rfl⟩ | (simp only [pvE, lsE, zo]; exact ⟨_, _, _, _, _, _, _, _, _, rfl⟩) | (simp only [pvE, lsE, zo, h77, h78]; exact ⟨_, _, _, _, _, _, _, _, _, rfl⟩)
  exact key l_1 [] _ _ _ rfl rfl f0 _ _ _ _ _ _
 ·rintro s ⟨t, hless, aqn, rfl, awj, awy, ahE, nx, g2, g3, g4, g5, g332, rfl⟩
  try dsimp only at hh
  refine nmy ?_
  first | (refine wG hless ?_; try refine ku ?_) | refine qP hless ?_ | refine qQ hless ?_
  refine zb fun K kk hK => ?_
  simp only [go_sem]
  refine hK _ _ fun nx => ?_; clear hK K; try clear kk
  refine zk ?_; refine nmx ?_
  obtain hR := Option.some.inj hh
  subst hR
  exact zy
 ·intro i s h; exact h.elim
 ·intro s h; exact h.elim
theorem aat (l : (List Int)) (R : (List Int)) (hh : slices_Clone_int l = some R) : PC Tryd.prog 100 [.list 1 (l.map (PV.int .i64))] (.own 1 (R.map (PV.int .i64))) := by
 rw [slices_Clone_int] at hh
 obtain ⟨ha, hb⟩ := zW hh
 rw [List.nil_append] at hb
 subst hb
 try simp only [List.length_nil, Nat.zero_add] at ha
 refine Xy rfl ?_
 refine zb fun K kk hK => ?_
 simp only [go_sem]
 refine hK _ _ fun nx => ?_; clear hK K; try clear kk
 refine zb fun K kk hK => ?_
 simp only [go_sem]
 refine ⟨fun hnil => hK _ _ fun nx => ?_, hK _ _ fun nx => ?_⟩ <;> (clear hK K; try clear kk)
 ·have hl : l = [] := by simpa using hnil
  subst hl
  first | refine zm rfl ?_ | (refine zn ?_; refine zm rfl ?_)
  refine zb fun K kk hK => ?_
  simp only [go_sem]
  refine hK _ _ fun nx => ?_; clear hK K; try clear kk
  refine zk ?_; refine nmx ?_
  exact VQ rfl
 ·first | refine zi rfl ?_ | (refine zn ?_; refine zi rfl ?_)
  refine zt ?_; refine nmx ?_
  refine zb fun K kk hK => ?_
  simp only [go_sem, ha]
  refine hK _ _ fun nx => ?_; clear hK K; try clear kk
  refine zk ?_; refine nmx ?_
  exact XB (by rfl) (by rfl) (by rfl) (by simp) (by rfl)
end Go.Proofs.YtclohbgnaopjfaaDoor
