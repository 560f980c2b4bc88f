/- Texts of the proof of stepTokensCard -/
import Derived.Test.YtclohbgnaopjfaaGreatDoorAgC
import Derived.Test.YtclohbgnaopjfaaGreatDoorAgF
import Derived.Test.YtclohbgnaopjfaaGreatDoorAgK6
import Derived.Test.YtclohbgnaopjfaaGreatDoorAgK7
namespace Go.Proofs.YtclohbgnaopjfaaGreatDoor
set_option linter.unusedSimpArgs false
set_option linter.unusedVariables false
open Go
set_option maxRecDepth 100000
theorem Kb (l_1 : (List zu)) (R : za) (hh : jk l_1 = some R) : PC Tryz.prog 7 [.list 4 (l_1.map zu.pv)] (.agg [.str R.Kind, .str R.Text, .list 1 (R.Marks.map PV.str), .list 2 (R.zq.map zf.pv), .list 5 (R.Kids.map za.pv)]) := by
 rw [jk] at hh
 refine Xy rfl ?_
 refine zb fun K kk hK => ?_
 simp only [go_sem]
 refine hK _ _ fun nx => ?_; clear hK K; try clear kk
 refine zb fun K kk hK => ?_
 simp only [go_sem]
 refine hK _ _ fun nx => ?_; clear hK K; try clear kk
 refine zb fun K kk hK => ?_
 simp only [go_sem]
 refine hK _ _ fun nx => ?_; clear hK K; try clear kk
 refine zb fun K kk hK => ?_
 simp only [go_sem]
 refine hK _ _ fun nx => ?_; clear hK K; try clear kk
 refine zm ?_
 refine zb fun K kk hK => ?_
 simp only [go_sem]
 refine hK _ _ fun nx => ?_; clear hK K; try clear kk
 obtain ⟨e0, f0, hh⟩ := ze hh
 obtain ⟨hlen0, f0⟩ := zR f0
 refine qz (w9 (fun s => ∃ apY, apY = e0 ∧ ∃ (awm : Int) (av9 : Bool) (agq : (List za)) (nx : Nat) (g2 : Nat) (g3 : Nat) (g4 : Nat) (g5 : Nat) (g332 : Nat), s = ⟨[(0, .list 4 (l_1.map zu.pv)), (2, .box 2 g2 0), (3, .row 3 g3 [([97] : Str), ([98, 99] : Str), ([195, 169] : Str), ([120, 32, 121] : Str), ([230, 151, 165, 230, 156, 172] : Str)].length), (4, .box 4 g4 0), (5, .row 5 g5 agq.length), (6, .int .i64 awm), (22, .bool av9)], [(2, g2, .var 28 [.str ([] : Str), .str ([] : Str), .list 1 ([].map PV.str), .list 2 ([].map zf.pv), .list 5 ([].map za.pv)]), (3, g3, .row false 1 ([([97] : Str), ([98, 99] : Str), ([195, 169] : Str), ([120, 32, 121] : Str), ([230, 151, 165, 230, 156, 172] : Str)].map PV.str)), (4, g4, .var 28 [.str ([100, 111, 99] : Str), .str ([] : Str), .list 1 ([].map PV.str), .list 2 ([].map zf.pv), .row 332 g332 apY.length]), (5, g5, .row false 5 (agq.map za.pv)), (332, g332, .row false 5 (apY.map za.pv))], nx⟩))
  (fun i s => False)
  (fun s => False) ?_ ?_ ?_ ?_
 ·refine zC ?_
  refine qi fun I hI => ?_
  have key : ∀ (suf pre : List zu) (QX : Int) (xJ : (List za)) (yP : (List za)), l_1 = pre ++ suf → QX = (pre.length : Int) → zF suf QX xJ yP = some e0 → ∀ (nx : Nat) (g2 : Nat) (g3 : Nat) (g4 : Nat) (g5 : Nat) (g332 : Nat), I ⟨[(0, .list 4 (l_1.map zu.pv)), (2, .box 2 g2 0), (3, .row 3 g3 [([97] : Str), ([98, 99] : Str), ([195, 169] : Str), ([120, 32, 121] : Str), ([230, 151, 165, 230, 156, 172] : Str)].length), (4, .box 4 g4 0), (5, .row 5 g5 xJ.length), (6, .int .i64 QX)], [(2, g2, .var 28 [.str ([] : Str), .str ([] : Str), .list 1 ([].map PV.str), .list 2 ([].map zf.pv), .list 5 ([].map za.pv)]), (3, g3, .row false 1 ([([97] : Str), ([98, 99] : Str), ([195, 169] : Str), ([120, 32, 121] : Str), ([230, 151, 165, 230, 156, 172] : Str)].map PV.str)), (4, g4, .var 28 [.str ([100, 111, 99] : Str), .str ([] : Str), .list 1 ([].map PV.str), .list 2 ([].map zf.pv), .row 332 g332 yP.length]), (5, g5, .row false 5 (xJ.map za.pv)), (332, g332, .row false 5 (yP.map za.pv))], nx⟩ := by
   intro suf
   induction suf with
   | nil =>
    intro pre QX xJ yP hsplit hidx hh nx g2 g3 g4 g5 g332
    rw [zF] at hh
    refine hI _ ?_
    have h77 := walk_nil hsplit hidx
    refine zm ?_
    refine zb fun K kk hK => ?_
    simp only [go_sem, h77, of_decide_eq_false h77]
    (repeat refine sd ?_)
    refine hK _ _ fun nx => ?_; clear hK K; try clear kk
    refine zh rfl ?_
    refine zV ?_; refine nmx ?_
    refine wU ?_
    refine zH ?_
    refine ⟨_, (Option.some.inj hh), ?_⟩
    first | exact ⟨_, _, _, _, _, _, _, _, _, rfl⟩ | (simp only [pvE, lsE, zo]; exact ⟨_, _, _, _, _, _, _, _, _, rfl⟩) | (simp only [pvE, lsE, zo, h77]; exact ⟨_, _, _, _, _, _, _, _, _, rfl⟩)
   | cons aeA suf ih =>
    intro pre QX xJ yP hsplit hidx hh nx g2 g3 g4 g5 g332
    rw [zF] at hh
    refine hI _ ?_
    obtain ⟨hl0a, hl0b, hl0d, hl0w, h77⟩ := qV (f := zu.pv) hsplit hidx hlen0
    refine zm ?_
    refine zb fun K kk hK => ?_
    simp only [go_sem, h77, of_decide_eq_true h77, hl0a, hl0b, hl0d, hl0w]
    (repeat refine sd ?_)
    refine hK _ _ fun nx => ?_; clear hK K; try clear kk
    by_cases h78 : (decide (QX < (40 : Int))) = true
    ·rw [if_pos h78] at hh
     refine zk (by first | exact congrArg PV.bool h78 | rfl) ?_
     refine zy ?_; refine nmx ?_
     refine zm ?_
     refine zC ?_
     obtain ⟨apl, h79, hh⟩ := ze hh
     obtain ⟨aud, h80, hh⟩ := ze hh
     obtain ⟨h80a, h80b, h80c⟩ := rd_some h80
     have h80d := kR (f := PV.str) h80c
     have h80f := wL (f := PV.str) h80c
     try simp only [Int.toNat_natCast, Int.reduceToNat] at h80d h80f
     simp only [List.length_cons, List.length_nil, List.map_cons, List.map_nil, Nat.zero_add, Nat.reduceAdd, reduceCtorEq, not_false_eq_true, and_true, pvE] at h80b h80d h80f
     refine zb fun K kk hK => ?_
     simp only [go_sem, h80a, h80b, h80d, h80f, hl0a, hl0b, hl0d, hl0w]
     (repeat refine sd ?_)
     refine zg (qj _ _ _ h79) (by (try simp only [go_sem, h80a, h80b, h80d, h80f, hl0a, hl0b, hl0d, hl0w]) <;> exact wkl) (by rfl) (by rfl) ?_
     simp only [go_sem, h80a, h80b, h80d, h80f, hl0a, hl0b, hl0d, hl0w]
     (repeat refine sd ?_)
     refine hK _ _ fun nx => ?_; clear hK K; try clear kk
     refine zm ?_
     obtain ⟨e7, f7, hh⟩ := ze hh
     refine Qg (fun s => ∃ anf, anf = e7 ∧ ∃ (nx : Nat) (g2 : Nat) (g3 : Nat) (g4 : Nat) (g5 : Nat) (g7 : Nat) (g332 : Nat) (g351 : Nat), s = ⟨[(0, .list 4 (l_1.map zu.pv)), (2, .box 2 g2 0), (3, .row 3 g3 [([97] : Str), ([98, 99] : Str), ([195, 169] : Str), ([120, 32, 121] : Str), ([230, 151, 165, 230, 156, 172] : Str)].length), (4, .box 4 g4 0), (5, .row 5 g5 xJ.length), (6, .int .i64 QX), (7, .box 7 g7 0)], [(2, g2, .var 28 [.str ([] : Str), .str ([] : Str), .list 1 ([].map PV.str), .list 2 ([].map zf.pv), .list 5 ([].map za.pv)]), (3, g3, .row false 1 ([([97] : Str), ([98, 99] : Str), ([195, 169] : Str), ([120, 32, 121] : Str), ([230, 151, 165, 230, 156, 172] : Str)].map PV.str)), (4, g4, .var 28 [.str ([100, 111, 99] : Str), .str ([] : Str), .list 1 ([].map PV.str), .list 2 ([].map zf.pv), .row 332 g332 yP.length]), (5, g5, .row false 5 (xJ.map za.pv)), (7, g7, .var 28 [.str ([116, 101, 120, 116] : Str), .str aud, .row 351 g351 anf.length, .list 2 ([].map zf.pv), .list 5 ([].map za.pv)]), (332, g332, .row false 5 (yP.map za.pv)), (351, g351, .row false 1 (anf.map PV.str))], nx⟩)
      (fun i s => False)
      (fun s => False) ?_ ?_ ?_ ?_
     ·have hh := f7
      obtain ⟨acy, h81, hh⟩ := ze hh
      refine zb fun K kk hK => ?_
      simp only [go_sem, hl0a, hl0b, hl0d, hl0w]
      refine zg (qj _ _ _ h81) (by (try simp only [go_sem, hl0a, hl0b, hl0d, hl0w]) <;> exact wkl) (by rfl) (by rfl) ?_
      simp only [go_sem, hl0a, hl0b, hl0d, hl0w]
      refine hK _ _ fun nx => ?_; clear hK K; try clear kk
      by_cases h82 : ((ajD acy (1 : Int)) == (1 : Int)) = true
      ·rw [if_pos h82] at hh
       refine zk (by first | exact congrArg PV.bool h82 | rfl) ?_
       obtain ⟨aoe, h83, hh⟩ := ze hh
       obtain ⟨h83a, h83c⟩ := zX h83
       have h83d := qF (f := PV.str) h83c
       have h83e := (qE h83c).symm
       try simp only [List.length_cons, List.length_nil, Nat.zero_add, Nat.reduceAdd] at h83a h83e
       try simp only [List.map_cons, List.map_nil, List.nil_append, List.append_nil, List.cons_append, List.singleton_append, zo, pvE] at h83d
       have h83g := ams (f := PV.str) h83e
       have h83h := arP h83e h83a
       refine zt fun K kk hK => ?_
       simp only [go_sem, h83a, h83d, eq_true h83e, eq_true (Nat.le_of_eq h83e.symm), h83g, hl0a, hl0b, hl0d, hl0w]
       (repeat refine sd ?_)
       refine hK _ _ fun nx => ?_; clear hK K; try clear kk
       refine nmx ?_
       refine wU ?_
       refine zH ?_
       refine ⟨_, (Option.some.inj hh), ?_⟩
       first | exact ⟨_, _, _, _, _, _, _, _, rfl⟩ | (simp only [pvE, lsE, zo, h83e]; exact ⟨_, _, _, _, _, _, _, _, rfl⟩) | (simp only [pvE, lsE, zo, h83e, h77, h78, h82]; exact ⟨_, _, _, _, _, _, _, _, rfl⟩)
      ·rw [if_neg h82] at hh
       replace h82 := Bool.eq_false_iff.mpr h82
       refine zh (by first | exact congrArg PV.bool h82 | rfl) ?_
       refine zy ?_; refine nmx ?_
       refine wU ?_
       refine ajW (acf _ [0, 2, 3, 4, 5, 6, 7] [2, 3, 4, 5, 7, 332, 351]) ?_
       refine ⟨_, (Option.some.inj hh), ?_⟩
       first | exact ⟨_, _, _, _, _, _, _, _, rfl⟩ | (simp only [pvE, lsE, zo]; exact ⟨_, _, _, _, _, _, _, _, rfl⟩) | (simp only [pvE, lsE, zo, h77, h78, h82]; exact ⟨_, _, _, _, _, _, _, _, rfl⟩)
     ·rintro s ⟨anf, rfl, nx, g2, g3, g4, g5, g7, g332, g351, rfl⟩
      try dsimp only at hh
      refine zm ?_
      obtain ⟨e8, f8, hh⟩ := ze hh
      refine Qg (fun s => ∃ apT, apT = e8 ∧ ∃ (nx : Nat) (g2 : Nat) (g3 : Nat) (g4 : Nat) (g5 : Nat) (g7 : Nat) (g332 : Nat) (g351 : Nat), s = ⟨[(0, .list 4 (l_1.map zu.pv)), (2, .box 2 g2 0), (3, .row 3 g3 [([97] : Str), ([98, 99] : Str), ([195, 169] : Str), ([120, 32, 121] : Str), ([230, 151, 165, 230, 156, 172] : Str)].length), (4, .box 4 g4 0), (5, .row 5 g5 xJ.length), (6, .int .i64 QX), (7, .box 7 g7 0)], [(2, g2, .var 28 [.str ([] : Str), .str ([] : Str), .list 1 ([].map PV.str), .list 2 ([].map zf.pv), .list 5 ([].map za.pv)]), (3, g3, .row false 1 ([([97] : Str), ([98, 99] : Str), ([195, 169] : Str), ([120, 32, 121] : Str), ([230, 151, 165, 230, 156, 172] : Str)].map PV.str)), (4, g4, .var 28 [.str ([100, 111, 99] : Str), .str ([] : Str), .list 1 ([].map PV.str), .list 2 ([].map zf.pv), .row 332 g332 yP.length]), (5, g5, .row false 5 (xJ.map za.pv)), (7, g7, .var 28 [.str ([116, 101, 120, 116] : Str), .str aud, .row 351 g351 apT.length, .list 2 ([].map zf.pv), .list 5 ([].map za.pv)]), (332, g332, .row false 5 (yP.map za.pv)), (351, g351, .row false 1 (apT.map PV.str))], nx⟩)
       (fun i s => False)
       (fun s => False) ?_ ?_ ?_ ?_
      ·have hh := f8
       obtain ⟨adg, h84, hh⟩ := ze hh
       refine zb fun K kk hK => ?_
       simp only [go_sem, hl0a, hl0b, hl0d, hl0w]
       refine zg (qj _ _ _ h84) (by (try simp only [go_sem, hl0a, hl0b, hl0d, hl0w]) <;> exact wkl) (by rfl) (by rfl) ?_
       simp only [go_sem, hl0a, hl0b, hl0d, hl0w]
       refine hK _ _ fun nx => ?_; clear hK K; try clear kk
       by_cases h85 : ((ajD adg (2 : Int)) == (2 : Int)) = true
       ·rw [if_pos h85] at hh
        refine zk (by first | exact congrArg PV.bool h85 | rfl) ?_
        obtain ⟨atw, h86, hh⟩ := ze hh
        obtain ⟨h86a, h86c⟩ := zX h86
        have h86d := qF (f := PV.str) h86c
        have h86e := qE h86c
        try simp only [List.length_cons, List.length_nil, Nat.zero_add, Nat.reduceAdd] at h86a h86e
        try simp only [h86e] at h86a
        try simp only [List.map_cons, List.map_nil, List.nil_append, List.append_nil, List.cons_append, List.singleton_append, zo, pvE] at h86d
        refine zt fun K kk hK => ?_
        simp only [go_sem, h86a, h86d, h86e, hl0a, hl0b, hl0d, hl0w]
        (repeat refine sd ?_)
        refine hK _ _ fun nx => ?_; clear hK K; try clear kk
        refine nmx ?_
        refine wU ?_
        refine zH ?_
        refine ⟨_, (Option.some.inj hh), ?_⟩
        first | exact ⟨_, _, _, _, _, _, _, _, rfl⟩ | (simp only [pvE, lsE, zo, h86e]; exact ⟨_, _, _, _, _, _, _, _, rfl⟩) | (simp only [pvE, lsE, zo, h86e, h77, h78, h85]; exact ⟨_, _, _, _, _, _, _, _, rfl⟩)
       ·rw [if_neg h85] at hh
        replace h85 := Bool.eq_false_iff.mpr h85
        refine zh (by first | exact congrArg PV.bool h85 | rfl) ?_
        refine zy ?_; refine nmx ?_
        refine wU ?_
        refine ajW (acf _ [0, 2, 3, 4, 5, 6, 7] [2, 3, 4, 5, 7, 332, 351]) ?_
        refine ⟨_, (Option.some.inj hh), ?_⟩
        first | exact ⟨_, _, _, _, _, _, _, _, rfl⟩ | (simp only [pvE, lsE, zo]; exact ⟨_, _, _, _, _, _, _, _, rfl⟩) | (simp only [pvE, lsE, zo, h77, h78, h85]; exact ⟨_, _, _, _, _, _, _, _, rfl⟩)
      ·rintro s ⟨apT, rfl, nx, g2, g3, g4, g5, g7, g332, g351, rfl⟩
       try dsimp only at hh
       obtain ⟨auN, h87, hh⟩ := ze hh
       obtain ⟨h87a, h87c⟩ := zX h87
       have h87d := qF (f := za.pv) h87c
       have h87e := qE h87c
       try simp only [List.length_cons, List.length_nil, Nat.zero_add, Nat.reduceAdd] at h87a h87e
       try simp only [h87e] at h87a
       try simp only [List.map_cons, List.map_nil, List.nil_append, List.append_nil, List.cons_append, List.singleton_append, zo, pvE] at h87d
       refine zb fun K kk hK => ?_
       simp only [go_sem, h87a, h87d, h87e, hl0a, hl0b, hl0d, hl0w]
       (repeat refine sd ?_)
       refine hK _ _ fun nx => ?_; clear hK K; try clear kk
       obtain ⟨Xh, h88, hh⟩ := ze hh
       refine zb fun K kk hK => ?_
       simp only [go_sem, hl0a, hl0b, hl0d, hl0w]
       refine zg (qj _ _ _ h88) (by (try simp only [go_sem, hl0a, hl0b, hl0d, hl0w]) <;> exact wkl) (by rfl) (by rfl) ?_
       simp only [go_sem, hl0a, hl0b, hl0d, hl0w]
       refine hK _ _ fun nx => ?_; clear hK K; try clear kk
       refine zm ?_
       refine zb fun K kk hK => ?_
       simp only [go_sem, hl0a, hl0b, hl0d, hl0w]
       refine hK _ _ fun nx => ?_; clear hK K; try clear kk
       by_cases h89 : (Xh == (0 : Int)) = true
       ·rw [if_pos h89] at hh
        refine zk (by first | exact congrArg PV.bool h89 | rfl) ?_
        refine zV ?_; refine nmx ?_
        refine zt fun K kk hK => ?_
        simp only [go_sem, hl0a, hl0b, hl0d, hl0w]
        refine hK _ _ fun nx => ?_; clear hK K; try clear kk
        refine nmx ?_
        have ih' := ih (pre ++ [aeA]) (QX + 1) _ _ (by rw [hsplit]; simp) (by simp [hidx]) hh nx
        refine zH ?_
        first | exact ih' _ _ _ _ _ | (simp only [pvE, lsE, zo, h87e] at ih' ⊢; exact ih' _ _ _ _ _) | (simp only [pvE, lsE, zo, h87e, h77, h78, h89] at ih' ⊢; exact ih' _ _ _ _ _)
       ·rw [if_neg h89] at hh
        replace h89 := Bool.eq_false_iff.mpr h89
        refine zh (by first | exact congrArg PV.bool h89 | rfl) ?_
        refine zy ?_; refine nmx ?_
        obtain ⟨jZ, h90, hh⟩ := ze hh
        refine zb fun K kk hK => ?_
        simp only [go_sem, hl0a, hl0b, hl0d, hl0w]
        refine zg (YV _ _ _ h90) (by (try simp only [go_sem, hl0a, hl0b, hl0d, hl0w]) <;> exact wkl) (by rfl) (by rfl) ?_
        simp only [go_sem, hl0a, hl0b, hl0d, hl0w]
        refine hK _ _ fun nx => ?_; clear hK K; try clear kk
        refine zb fun K kk hK => ?_
        simp only [go_sem, hl0a, hl0b, hl0d, hl0w]
        refine hK _ _ fun nx => ?_; clear hK K; try clear kk
        refine zb fun K kk hK => ?_
        simp only [go_sem, hl0a, hl0b, hl0d, hl0w]
        refine hK _ _ fun nx => ?_; clear hK K; try clear kk
        refine zm ?_
        refine zb fun K kk hK => ?_
        simp only [go_sem, hl0a, hl0b, hl0d, hl0w]
        refine hK _ _ fun nx => ?_; clear hK K; try clear kk
        by_cases h91 : (decide (Xh < (3 : Int))) = true
        ·rw [if_pos h91] at hh
         refine zk (by first | exact congrArg PV.bool h91 | rfl) ?_
         obtain ⟨atn, h92, hh⟩ := ze hh
         obtain ⟨h92a, h92c⟩ := zX h92
         have h92d := qF (f := za.pv) h92c
         have h92e := qE h92c
         try simp only [List.length_cons, List.length_nil, Nat.zero_add, Nat.reduceAdd] at h92a h92e
         try simp only [h92e] at h92a
         try simp only [List.map_cons, List.map_nil, List.nil_append, List.append_nil, List.cons_append, List.singleton_append, zo, pvE] at h92d
         refine zb fun K kk hK => ?_
         simp only [go_sem, h92a, h92d, h92e, hl0a, hl0b, hl0d, hl0w]
         (repeat refine sd ?_)
         refine hK _ _ fun nx => ?_; clear hK K; try clear kk
         refine zV ?_; refine nmx ?_
         refine zt fun K kk hK => ?_
         simp only [go_sem, hl0a, hl0b, hl0d, hl0w]
         refine hK _ _ fun nx => ?_; clear hK K; try clear kk
         refine nmx ?_
         have ih' := ih (pre ++ [aeA]) (QX + 1) _ _ (by rw [hsplit]; simp) (by simp [hidx]) hh nx
         refine zH ?_
         first | exact ih' _ _ _ _ _ | (simp only [pvE, lsE, zo, h87e, h92e] at ih' ⊢; exact ih' _ _ _ _ _) | (simp only [pvE, lsE, zo, h87e, h92e, h77, h78, h89, h91] at ih' ⊢; exact ih' _ _ _ _ _)
        ·rw [if_neg h91] at hh
         replace h91 := Bool.eq_false_iff.mpr h91
         refine zh (by first | exact congrArg PV.bool h91 | rfl) ?_
         refine zy ?_; refine nmx ?_
         refine zb fun K kk hK => ?_
         simp only [go_sem, hl0a, hl0b, hl0d, hl0w]
         refine hK _ _ fun nx => ?_; clear hK K; try clear kk
         refine zm ?_
         obtain ⟨e9, f9, hh⟩ := ze hh
         refine Qg (fun s => .inr () = e9 ∧ ∃ (awn : Bool) (nx : Nat) (g2 : Nat) (g3 : Nat) (g4 : Nat) (g5 : Nat) (g11 : Nat) (g332 : Nat) (g381 : Nat), s = ⟨[(0, .list 4 (l_1.map zu.pv)), (2, .box 2 g2 0), (3, .row 3 g3 [([97] : Str), ([98, 99] : Str), ([195, 169] : Str), ([120, 32, 121] : Str), ([230, 151, 165, 230, 156, 172] : Str)].length), (4, .box 4 g4 0), (5, .row 5 g5 ([] : List za).length), (6, .int .i64 QX), (10, .int .i64 (w64 ((yP.length : Int) - (1 : Int)))), (11, .box 11 g11 0), (108, .bool awn)], [(2, g2, .var 28 [.str ([] : Str), .str ([] : Str), .list 1 ([].map PV.str), .list 2 ([].map zf.pv), .list 5 ([].map za.pv)]), (3, g3, .row false 1 ([([97] : Str), ([98, 99] : Str), ([195, 169] : Str), ([120, 32, 121] : Str), ([230, 151, 165, 230, 156, 172] : Str)].map PV.str)), (4, g4, .var 28 [.str ([100, 111, 99] : Str), .str ([] : Str), .list 1 ([].map PV.str), .list 2 ([].map zf.pv), .row 332 g332 yP.length]), (5, g5, .row false 5 (([] : List za).map za.pv)), (11, g11, .var 28 [.str ([105, 116, 101, 109] : Str), .str ([] : Str), .list 1 ([].map PV.str), .list 2 ([].map zf.pv), .row 381 g381 [jZ].length]), (332, g332, .row false 5 (yP.map za.pv)), (381, g381, .row false 5 ([jZ].map za.pv))], nx⟩)
          (fun i s => (i = 1 ∧ ∃ amz, .inl amz = e9 ∧ ∃ (nx : Nat) (g2 : Nat) (g3 : Nat) (g4 : Nat) (g5 : Nat) (g332 : Nat), s = ⟨[(0, .list 4 (l_1.map zu.pv)), (2, .box 2 g2 0), (3, .row 3 g3 [([97] : Str), ([98, 99] : Str), ([195, 169] : Str), ([120, 32, 121] : Str), ([230, 151, 165, 230, 156, 172] : Str)].length), (4, .box 4 g4 0), (5, .row 5 g5 ([] : List za).length), (6, .int .i64 QX)], [(2, g2, .var 28 [.str ([] : Str), .str ([] : Str), .list 1 ([].map PV.str), .list 2 ([].map zf.pv), .list 5 ([].map za.pv)]), (3, g3, .row false 1 ([([97] : Str), ([98, 99] : Str), ([195, 169] : Str), ([120, 32, 121] : Str), ([230, 151, 165, 230, 156, 172] : Str)].map PV.str)), (4, g4, .var 28 [.str ([100, 111, 99] : Str), .str ([] : Str), .list 1 ([].map PV.str), .list 2 ([].map zf.pv), .row 332 g332 amz.length]), (5, g5, .row false 5 (([] : List za).map za.pv)), (332, g332, .row false 5 (amz.map za.pv))], nx⟩))
          (fun s => False) ?_ ?_ ?_ ?_
         ·have hh := f9
          by_cases h93 : (decide ((w64 ((yP.length : Int) - (1 : Int))) ≥ (0 : Int))) = true
          ·rw [if_pos h93] at hh
           obtain ⟨akT, h94, hh⟩ := ze hh
           obtain ⟨h94a, h94b, h94c⟩ := rd_some h94
           have h94d := kR (f := za.pv) h94c
           have h94f := wL (f := za.pv) h94c
           try simp only [Int.toNat_natCast, Int.reduceToNat] at h94d h94f
           by_cases h95 : (akT.Kind == ([108, 105, 115, 116] : Str)) = true
           ·rw [if_pos h95] at hh
            refine zb fun K kk hK => ?_
            simp only [go_sem, h93, of_decide_eq_true h93, h94a, h94b, h94d, h94f.1, h94f.2, h95, hl0a, hl0b, hl0d, hl0w]
            (repeat refine sd ?_)
            refine hK _ _ fun nx => ?_; clear hK K; try clear kk
            by_cases h96 : (Xh == (3 : Int)) = true
            ·rw [if_pos h96] at hh
             refine zk (by first | exact congrArg PV.bool h96 | rfl) ?_
             refine zb fun K kk hK => ?_
             simp only [go_sem, h94a, h94b, h94d, h94f.1, h94f.2, hl0a, hl0b, hl0d, hl0w]
             (repeat refine sd ?_)
             refine hK _ _ fun nx => ?_; clear hK K; try clear kk
             obtain ⟨anm, h97, hh⟩ := ze hh
             obtain ⟨h97a, h97c⟩ := zX h97
             have h97d := qF (f := za.pv) h97c
             have h97e := qE h97c
             try simp only [List.length_cons, List.length_nil, Nat.zero_add, Nat.reduceAdd] at h97a h97e
             try simp only [h97e] at h97a
             try simp only [List.map_cons, List.map_nil, List.nil_append, List.append_nil, List.cons_append, List.singleton_append, zo, pvE] at h97d
             obtain ⟨at1, h98, hh⟩ := ze hh
             obtain ⟨h98a, h98c⟩ := zX h98
             have h98d := qF (f := za.pv) h98c
             have h98e := qE h98c
             try simp only [List.length_cons, List.length_nil, Nat.zero_add, Nat.reduceAdd] at h98a h98e
             try simp only [h98e] at h98a
             try simp only [List.map_cons, List.map_nil, List.nil_append, List.append_nil, List.cons_append, List.singleton_append, zo, pvE] at h98d
             refine agC (.nrm 11 [none, none, none, none, some 5]) ?_
             refine zb fun K kk hK => ?_
             simp only [go_sem, h97a, h97d, h97e, h98a, h98d, h98e, hl0a, hl0b, hl0d, hl0w]
             (repeat refine sd ?_)
             refine hK _ _ fun nx => ?_; clear hK K; try clear kk
             obtain ⟨as4, h99, hh⟩ := ze hh
             obtain ⟨h99a, h99c⟩ := Qm h99
             have h99g := X7 h99a
             have h99d := aai (f := za.pv) h99c
             try simp only [Int.toNat_natCast, Int.reduceToNat, List.map_cons, List.map_nil, pvE] at h99d
             obtain ⟨ato, h100, hh⟩ := ze hh
             obtain ⟨h100a, h100c⟩ := zX h100
             have h100d := qF (f := za.pv) h100c
             have h100e := qE h100c
             try simp only [List.length_cons, List.length_nil, Nat.zero_add, Nat.reduceAdd] at h100a h100e
             try simp only [h100e] at h100a
             try simp only [List.map_cons, List.map_nil, List.nil_append, List.append_nil, List.cons_append, List.singleton_append, zo, pvE] at h100d
             obtain ⟨atU, h101, hh⟩ := ze hh
             obtain ⟨h101a, h101c⟩ := zX h101
             have h101d := qF (f := za.pv) h101c
             have h101e := qE h101c
             try simp only [List.length_cons, List.length_nil, Nat.zero_add, Nat.reduceAdd] at h101a h101e
             try simp only [h101e] at h101a
             try simp only [List.map_cons, List.map_nil, List.nil_append, List.append_nil, List.cons_append, List.singleton_append, zo, pvE] at h101d
             refine zb fun K kk hK => ?_
             simp only [go_sem, h99a.1, h99a.2.1, h99a.2.2, h99d, h99g, h100a, h100d, h100e, h101a, h101d, h101e, hl0a, hl0b, hl0d, hl0w]
             (repeat refine sd ?_)
             refine hK _ _ fun nx => ?_; clear hK K; try clear kk
             refine zV ?_; refine nmx ?_
             refine al1 ⟨rfl, _, (Option.some.inj hh), ?_⟩
             first | exact ⟨_, _, _, _, _, _, rfl⟩ | (simp only [pvE, lsE, zo, h87e, h97e, h97d, h98e, h100e, h100d, h101e]; exact ⟨_, _, _, _, _, _, rfl⟩) | (simp only [pvE, lsE, zo, h87e, h97e, h97d, h98e, h100e, h100d, h101e, h77, h78, h89, h91, h93, h95, h96]; exact ⟨_, _, _, _, _, _, rfl⟩)
            ·rw [if_neg h96] at hh
             replace h96 := Bool.eq_false_iff.mpr h96
             refine zh (by first | exact congrArg PV.bool h96 | rfl) ?_
             refine zy ?_; refine nmx ?_
             refine wU ?_
             refine zH ?_
             refine ⟨(Option.some.inj hh), ?_⟩
             first | exact ⟨_, _, _, _, _, _, _, _, _, rfl⟩ | (simp only [pvE, lsE, zo, h87e]; exact ⟨_, _, _, _, _, _, _, _, _, rfl⟩) | (simp only [pvE, lsE, zo, h87e, h77, h78, h89, h91, h93, h95, h96]; exact ⟨_, _, _, _, _, _, _, _, _, rfl⟩)
           ·rw [if_neg h95] at hh
            replace h95 := Bool.eq_false_iff.mpr h95
            refine zb fun K kk hK => ?_
            simp only [go_sem, h93, of_decide_eq_true h93, h94a, h94b, h94d, h94f.1, h94f.2, h95, hl0a, hl0b, hl0d, hl0w]
            (repeat refine sd ?_)
            refine hK _ _ fun nx => ?_; clear hK K; try clear kk
            refine zh rfl ?_
            refine zy ?_; refine nmx ?_
            refine wU ?_
            refine zH ?_
            refine ⟨(Option.some.inj hh), ?_⟩
            first | exact ⟨_, _, _, _, _, _, _, _, _, rfl⟩ | (simp only [pvE, lsE, zo, h87e]; exact ⟨_, _, _, _, _, _, _, _, _, rfl⟩) | (simp only [pvE, lsE, zo, h87e, h77, h78, h89, h91, h93, h95]; exact ⟨_, _, _, _, _, _, _, _, _, rfl⟩)
          ·rw [if_neg h93] at hh
           replace h93 := Bool.eq_false_iff.mpr h93
           refine zb fun K kk hK => ?_
           simp only [go_sem, h93, of_decide_eq_false h93, hl0a, hl0b, hl0d, hl0w]
           (repeat refine sd ?_)
           refine hK _ _ fun nx => ?_; clear hK K; try clear kk
           refine zh rfl ?_
           refine zy ?_; refine nmx ?_
           refine wU ?_
           refine zH ?_
           refine ⟨(Option.some.inj hh), ?_⟩
           first | exact ⟨_, _, _, _, _, _, _, _, _, rfl⟩ | (simp only [pvE, lsE, zo, h87e]; exact ⟨_, _, _, _, _, _, _, _, _, rfl⟩) | (simp only [pvE, lsE, zo, h87e, h77, h78, h89, h91, h93]; exact ⟨_, _, _, _, _, _, _, _, _, rfl⟩)
         ·rintro s ⟨rfl, awn, nx, g2, g3, g4, g5, g11, g332, g381, rfl⟩
          try dsimp only at hh
          refine zm ?_
          by_cases h102 : (decide ((w64 ((yP.length : Int) - (1 : Int))) ≥ (0 : Int))) = true
          ·rw [if_pos h102] at hh
           obtain ⟨ake, h103, hh⟩ := ze hh
           obtain ⟨h103a, h103b, h103c⟩ := rd_some h103
           have h103d := kR (f := za.pv) h103c
           have h103f := wL (f := za.pv) h103c
           try simp only [Int.toNat_natCast, Int.reduceToNat] at h103d h103f
           by_cases h104 : (ake.Kind == ([108, 105, 115, 116] : Str)) = true
           ·rw [if_pos h104] at hh
            obtain ⟨Yw, h105, hh⟩ := ze hh
            refine zb fun K kk hK => ?_
            simp only [go_sem, h102, of_decide_eq_true h102, h103a, h103b, h103d, h103f.1, h103f.2, h104, hl0a, hl0b, hl0d, hl0w]
            (repeat refine sd ?_)
            refine zg (YT _ _ h105) (by (try simp only [go_sem, h102, of_decide_eq_true h102, h103a, h103b, h103d, h103f.1, h103f.2, h104, hl0a, hl0b, hl0d, hl0w]) <;> exact wkl) (by rfl) (by rfl) ?_
            simp only [go_sem, h102, of_decide_eq_true h102, h103a, h103b, h103d, h103f.1, h103f.2, h104, hl0a, hl0b, hl0d, hl0w]
            (repeat refine sd ?_)
            refine hK _ _ fun nx => ?_; clear hK K; try clear kk
            by_cases h106 : (decide (Yw < (30 : Int))) = true
            ·rw [if_pos h106] at hh
             refine zk (by first | exact congrArg PV.bool h106 | rfl) ?_
             obtain ⟨aub, h107, hh⟩ := ze hh
             obtain ⟨h107a, h107c⟩ := zX h107
             have h107d := qF (f := za.pv) h107c
             have h107e := (qE h107c).symm
             try simp only [List.length_cons, List.length_nil, Nat.zero_add, Nat.reduceAdd] at h107a h107e
             try simp only [List.map_cons, List.map_nil, List.nil_append, List.append_nil, List.cons_append, List.singleton_append, zo, pvE] at h107d
             have h107g := ams (f := za.pv) h107e
             have h107h := arP h107e h107a
             refine zb fun K kk hK => ?_
             simp only [go_sem, h103a, h103b, h103d, h103f.1, h103f.2, h107a, h107d, eq_true h107e, eq_true (Nat.le_of_eq h107e.symm), h107g, hl0a, hl0b, hl0d, hl0w]
             (repeat refine sd ?_)
             refine hK _ _ fun nx => ?_; clear hK K; try clear kk
             obtain ⟨atJ, h108, hh⟩ := ze hh
             obtain ⟨h108a, h108c⟩ := Qm h108
             have h108g := X7 h108a
             have h108d := aai (f := za.pv) h108c
             try simp only [Int.toNat_natCast, Int.reduceToNat, List.map_cons, List.map_nil, pvE] at h108d
             obtain ⟨as3, h109, hh⟩ := ze hh
             obtain ⟨h109a, h109c⟩ := zX h109
             have h109d := qF (f := za.pv) h109c
             have h109e := qE h109c
             try simp only [List.length_cons, List.length_nil, Nat.zero_add, Nat.reduceAdd] at h109a h109e
             try simp only [h109e] at h109a
             try simp only [List.map_cons, List.map_nil, List.nil_append, List.append_nil, List.cons_append, List.singleton_append, zo, pvE] at h109d
             refine zt fun K kk hK => ?_
             simp only [go_sem, h108a.1, h108a.2.1, h108a.2.2, h108d, h108g, h109a, h109d, h109e, eq_true h107e, eq_true (Nat.le_of_eq h107e.symm), h107g, hl0a, hl0b, hl0d, hl0w]
             (repeat refine sd ?_)
             refine hK _ _ fun nx => ?_; clear hK K; try clear kk
             refine nmx ?_
             obtain ⟨att, h110, hh⟩ := ze hh
             obtain ⟨h110a, h110c⟩ := zX h110
             have h110d := qF (f := za.pv) h110c
             have h110e := qE h110c
             try simp only [List.length_cons, List.length_nil, Nat.zero_add, Nat.reduceAdd] at h110a h110e
             try simp only [h110e] at h110a
             try simp only [List.map_cons, List.map_nil, List.nil_append, List.append_nil, List.cons_append, List.singleton_append, zo, pvE] at h110d
             refine zt fun K kk hK => ?_
             simp only [go_sem, h110a, h110d, h110e, eq_true h107e, eq_true (Nat.le_of_eq h107e.symm), h107g, hl0a, hl0b, hl0d, hl0w]
             (repeat refine sd ?_)
             refine hK _ _ fun nx => ?_; clear hK K; try clear kk
             refine nmx ?_
             refine zt fun K kk hK => ?_
             simp only [go_sem, eq_true h107e, eq_true (Nat.le_of_eq h107e.symm), h107g, hl0a, hl0b, hl0d, hl0w]
             refine hK _ _ fun nx => ?_; clear hK K; try clear kk
             refine nmx ?_
             have ih' := ih (pre ++ [aeA]) (QX + 1) _ _ (by rw [hsplit]; simp) (by simp [hidx]) hh nx
             refine zH ?_
             first | exact ih' _ _ _ _ _ | (simp only [pvE, lsE, zo, h87e, h107e, h109e, h109d, h110e] at ih' ⊢; exact ih' _ _ _ _ _) | (simp only [pvE, lsE, zo, h87e, h107e, h109e, h109d, h110e, h102, h104, h106, h77, h78, h89, h91] at ih' ⊢; exact ih' _ _ _ _ _)
            ·rw [if_neg h106] at hh
             replace h106 := Bool.eq_false_iff.mpr h106
             refine zh (by first | exact congrArg PV.bool h106 | rfl) ?_
             refine zy ?_; refine nmx ?_
             obtain ⟨aua, h111, hh⟩ := ze hh
             obtain ⟨h111a, h111c⟩ := zX h111
             have h111d := qF (f := za.pv) h111c
             have h111e := qE h111c
             try simp only [List.length_cons, List.length_nil, Nat.zero_add, Nat.reduceAdd] at h111a h111e
             try simp only [h111e] at h111a
             try simp only [List.map_cons, List.map_nil, List.nil_append, List.append_nil, List.cons_append, List.singleton_append, zo, pvE] at h111d
             refine zt fun K kk hK => ?_
             simp only [go_sem, h111a, h111d, h111e, hl0a, hl0b, hl0d, hl0w]
             (repeat refine sd ?_)
             refine hK _ _ fun nx => ?_; clear hK K; try clear kk
             refine nmx ?_
             refine zt fun K kk hK => ?_
             simp only [go_sem, hl0a, hl0b, hl0d, hl0w]
             refine hK _ _ fun nx => ?_; clear hK K; try clear kk
             refine nmx ?_
             have ih' := ih (pre ++ [aeA]) (QX + 1) _ _ (by rw [hsplit]; simp) (by simp [hidx]) hh nx
             refine zH ?_
             first | exact ih' _ _ _ _ _ | (simp only [pvE, lsE, zo, h87e, h111e] at ih' ⊢; exact ih' _ _ _ _ _) | (simp only [pvE, lsE, zo, h87e, h111e, h102, h104, h106, h77, h78, h89, h91] at ih' ⊢; exact ih' _ _ _ _ _)
           ·rw [if_neg h104] at hh
            replace h104 := Bool.eq_false_iff.mpr h104
            refine zb fun K kk hK => ?_
            simp only [go_sem, h102, of_decide_eq_true h102, h103a, h103b, h103d, h103f.1, h103f.2, h104, hl0a, hl0b, hl0d, hl0w]
            (repeat refine sd ?_)
            refine hK _ _ fun nx => ?_; clear hK K; try clear kk
            refine zh rfl ?_
            refine zy ?_; refine nmx ?_
            obtain ⟨atB, h112, hh⟩ := ze hh
            obtain ⟨h112a, h112c⟩ := zX h112
            have h112d := qF (f := za.pv) h112c
            have h112e := qE h112c
            try simp only [List.length_cons, List.length_nil, Nat.zero_add, Nat.reduceAdd] at h112a h112e
            try simp only [h112e] at h112a
            try simp only [List.map_cons, List.map_nil, List.nil_append, List.append_nil, List.cons_append, List.singleton_append, zo, pvE] at h112d
            refine zt fun K kk hK => ?_
            simp only [go_sem, h112a, h112d, h112e, hl0a, hl0b, hl0d, hl0w]
            (repeat refine sd ?_)
            refine hK _ _ fun nx => ?_; clear hK K; try clear kk
            refine nmx ?_
            refine zt fun K kk hK => ?_
            simp only [go_sem, hl0a, hl0b, hl0d, hl0w]
            refine hK _ _ fun nx => ?_; clear hK K; try clear kk
            refine nmx ?_
            have ih' := ih (pre ++ [aeA]) (QX + 1) _ _ (by rw [hsplit]; simp) (by simp [hidx]) hh nx
            refine zH ?_
            first | exact ih' _ _ _ _ _ | (simp only [pvE, lsE, zo, h87e, h112e] at ih' ⊢; exact ih' _ _ _ _ _) | (simp only [pvE, lsE, zo, h87e, h112e, h102, h104, h77, h78, h89, h91] at ih' ⊢; exact ih' _ _ _ _ _)
          ·rw [if_neg h102] at hh
           replace h102 := Bool.eq_false_iff.mpr h102
           refine zb fun K kk hK => ?_
           simp only [go_sem, h102, of_decide_eq_false h102, hl0a, hl0b, hl0d, hl0w]
           (repeat refine sd ?_)
           refine hK _ _ fun nx => ?_; clear hK K; try clear kk
           refine zh rfl ?_
           refine zy ?_; refine nmx ?_
           obtain ⟨as5, h113, hh⟩ := ze hh
           obtain ⟨h113a, h113c⟩ := zX h113
           have h113d := qF (f := za.pv) h113c
           have h113e := qE h113c
           try simp only [List.length_cons, List.length_nil, Nat.zero_add, Nat.reduceAdd] at h113a h113e
           try simp only [h113e] at h113a
           try simp only [List.map_cons, List.map_nil, List.nil_append, List.append_nil, List.cons_append, List.singleton_append, zo, pvE] at h113d
           refine zt fun K kk hK => ?_
           simp only [go_sem, h113a, h113d, h113e, hl0a, hl0b, hl0d, hl0w]
           (repeat refine sd ?_)
           refine hK _ _ fun nx => ?_; clear hK K; try clear kk
           refine nmx ?_
           refine zt fun K kk hK => ?_
           simp only [go_sem, hl0a, hl0b, hl0d, hl0w]
           refine hK _ _ fun nx => ?_; clear hK K; try clear kk
           refine nmx ?_
           have ih' := ih (pre ++ [aeA]) (QX + 1) _ _ (by rw [hsplit]; simp) (by simp [hidx]) hh nx
           refine zH ?_
           first | exact ih' _ _ _ _ _ | (simp only [pvE, lsE, zo, h87e, h113e] at ih' ⊢; exact ih' _ _ _ _ _) | (simp only [pvE, lsE, zo, h87e, h113e, h102, h77, h78, h89, h91] at ih' ⊢; exact ih' _ _ _ _ _)
         ·intro i s h
          obtain ⟨rfl, amz, rfl, nx, g2, g3, g4, g5, g332, rfl⟩ := h
          try dsimp only at hh
          refine nmx ?_
          refine zt fun K kk hK => ?_
          simp only [go_sem, hl0a, hl0b, hl0d, hl0w]
          refine hK _ _ fun nx => ?_; clear hK K; try clear kk
          refine nmx ?_
          have ih' := ih (pre ++ [aeA]) (QX + 1) _ _ (by rw [hsplit]; simp) (by simp [hidx]) hh nx
          refine zH ?_
          first | exact ih' _ _ _ _ _ | (simp only [pvE, lsE, zo, h87e] at ih' ⊢; exact ih' _ _ _ _ _) | (simp only [pvE, lsE, zo, h87e, h77, h78, h89, h91] at ih' ⊢; exact ih' _ _ _ _ _)
         ·intro s h; exact h.elim
      ·intro i s h; exact h.elim
      ·intro s h; exact h.elim
     ·intro i s h; exact h.elim
     ·intro s h; exact h.elim
    ·rw [if_neg h78] at hh
     replace h78 := Bool.eq_false_iff.mpr h78
     refine zh (by first | exact congrArg PV.bool h78 | rfl) ?_
     refine zV ?_; refine nmx ?_
     refine wU ?_
     refine zH ?_
     refine ⟨_, (Option.some.inj hh), ?_⟩
     first | exact ⟨_, _, _, _, _, _, _, _, _, rfl⟩ | (simp only [pvE, lsE, zo]; exact ⟨_, _, _, _, _, _, _, _, _, rfl⟩) | (simp only [pvE, lsE, zo, h77, h78]; exact ⟨_, _, _, _, _, _, _, _, _, rfl⟩)
  exact key l_1 [] _ _ _ rfl rfl f0 _ _ _ _ _ _
 ·rintro s ⟨t, hless, apY, rfl, awm, av9, agq, nx, g2, g3, g4, g5, g332, rfl⟩
  try dsimp only at hh
  refine nmy ?_
  first | (refine qW hless ?_; try refine wY ?_) | refine qC hless ?_ | refine qD hless ?_
  refine zb fun K kk hK => ?_
  simp only [go_sem]
  refine hK _ _ fun nx => ?_; clear hK K; try clear kk
  refine zn ?_; refine nmx ?_
  obtain hR := Option.some.inj hh
  subst hR
  exact zz
 ·intro i s h; exact h.elim
 ·intro s h; exact h.elim
end Go.Proofs.YtclohbgnaopjfaaGreatDoor
