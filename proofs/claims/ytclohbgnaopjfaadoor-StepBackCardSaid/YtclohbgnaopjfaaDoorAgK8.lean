/- Texts of the proof of stepBackCard -/
import Derived.Test.YtclohbgnaopjfaaDoorAgC
import Derived.Test.YtclohbgnaopjfaaDoorAgF
import Derived.Test.YtclohbgnaopjfaaDoorAgK6
import Derived.Test.YtclohbgnaopjfaaDoorAgK7
import Derived.Test.YtclohbgnaopjfaaDoorAgL
namespace Go.Proofs.YtclohbgnaopjfaaDoor
set_option linter.unusedSimpArgs false
set_option linter.unusedVariables false
open Go
set_option maxRecDepth 100000
theorem KE (l_1 : (List zt)) (R : za) (hh : jE l_1 = some R) : PC Tryd.prog 25 [.list 4 (l_1.map zt.pv)] (.agg [.str R.Kind, .str R.Text, .list 1 (R.Marks.map PV.str), .list 2 (R.zo.map zg.pv), .list 5 (R.Kids.map za.pv)]) := by
 rw [jE] at hh
 refine XK rfl ?_
 refine zb fun K kk hK => ?_
 simp only [go_sem]
 refine hK _ _ fun nx => ?_; clear hK K; try clear kk
 refine zb fun K kk hK => ?_
 simp only [go_sem]
 refine hK _ _ fun nx => ?_; clear hK K; try clear kk
 refine zb fun K kk hK => ?_
 simp only [go_sem]
 refine hK _ _ fun nx => ?_; clear hK K; try clear kk
 refine zb fun K kk hK => ?_
 simp only [go_sem]
 refine hK _ _ fun nx => ?_; clear hK K; try clear kk
 refine zm ?_
 refine zb fun K kk hK => ?_
 simp only [go_sem]
 refine hK _ _ fun nx => ?_; clear hK K; try clear kk
 obtain ⟨e0, f0, hh⟩ := zf hh
 obtain ⟨hlen0, f0⟩ := z8 f0
 refine qz (kv (fun s => ∃ ap8, ap8 = e0 ∧ ∃ (awq : Int) (aws : Bool) (aii : (List za)) (nx : Nat) (g2 : Nat) (g3 : Nat) (g4 : Nat) (g5 : Nat) (g332 : Nat), s = ⟨[(0, .list 4 (l_1.map zt.pv)), (2, .box 2 g2 0), (3, .row 3 g3 [([97] : Str), ([98, 99] : Str), ([195, 169] : Str), ([120, 32, 121] : Str), ([230, 151, 165, 230, 156, 172] : Str)].length), (4, .box 4 g4 0), (5, .row 5 g5 aii.length), (6, .int .i64 awq), (22, .bool aws)], [(2, g2, .var 28 [.str ([] : Str), .str ([] : Str), .list 1 ([].map PV.str), .list 2 ([].map zg.pv), .list 5 ([].map za.pv)]), (3, g3, .row false 1 ([([97] : Str), ([98, 99] : Str), ([195, 169] : Str), ([120, 32, 121] : Str), ([230, 151, 165, 230, 156, 172] : Str)].map PV.str)), (4, g4, .var 28 [.str ([100, 111, 99] : Str), .str ([] : Str), .list 1 ([].map PV.str), .list 2 ([].map zg.pv), .row 332 g332 ap8.length]), (5, g5, .row false 5 (aii.map za.pv)), (332, g332, .row false 5 (ap8.map za.pv))], nx⟩))
  (fun i s => False)
  (fun s => False) ?_ ?_ ?_ ?_
 ·refine zC ?_
  refine qh fun I hI => ?_
  have key : ∀ (suf pre : List zt) (WB : Int) (yf : (List za)) (Zc : (List za)), l_1 = pre ++ suf → WB = (pre.length : Int) → zD suf WB yf Zc = some e0 → ∀ (nx : Nat) (g2 : Nat) (g3 : Nat) (g4 : Nat) (g5 : Nat) (g332 : Nat), I ⟨[(0, .list 4 (l_1.map zt.pv)), (2, .box 2 g2 0), (3, .row 3 g3 [([97] : Str), ([98, 99] : Str), ([195, 169] : Str), ([120, 32, 121] : Str), ([230, 151, 165, 230, 156, 172] : Str)].length), (4, .box 4 g4 0), (5, .row 5 g5 yf.length), (6, .int .i64 WB)], [(2, g2, .var 28 [.str ([] : Str), .str ([] : Str), .list 1 ([].map PV.str), .list 2 ([].map zg.pv), .list 5 ([].map za.pv)]), (3, g3, .row false 1 ([([97] : Str), ([98, 99] : Str), ([195, 169] : Str), ([120, 32, 121] : Str), ([230, 151, 165, 230, 156, 172] : Str)].map PV.str)), (4, g4, .var 28 [.str ([100, 111, 99] : Str), .str ([] : Str), .list 1 ([].map PV.str), .list 2 ([].map zg.pv), .row 332 g332 Zc.length]), (5, g5, .row false 5 (yf.map za.pv)), (332, g332, .row false 5 (Zc.map za.pv))], nx⟩ := by
   intro suf
   induction suf with
   | nil =>
    intro pre WB yf Zc hsplit hidx hh nx g2 g3 g4 g5 g332
    rw [zD] at hh
    refine hI _ ?_
    have h77 := walk_nil hsplit hidx
    refine zm ?_
    refine zb fun K kk hK => ?_
    simp only [go_sem, h77, of_decide_eq_false h77]
    (repeat refine sd ?_)
    refine hK _ _ fun nx => ?_; clear hK K; try clear kk
    refine zh rfl ?_
    refine zZ ?_; refine nmx ?_
    refine kN ?_
    refine zJ ?_
    refine ⟨_, (Option.some.inj hh), ?_⟩
    first | exact ⟨_, _, _, _, _, _, _, _, _, rfl⟩ | (simp only [pvE, lsE, zq]; exact ⟨_, _, _, _, _, _, _, _, _, rfl⟩) | (simp only [pvE, lsE, zq, h77]; exact ⟨_, _, _, _, _, _, _, _, _, rfl⟩)
   | cons aeU suf ih =>
    intro pre WB yf Zc hsplit hidx hh nx g2 g3 g4 g5 g332
    rw [zD] at hh
    refine hI _ ?_
    obtain ⟨hl0a, hl0b, hl0d, hl0w, h77⟩ := qI (f := zt.pv) hsplit hidx hlen0
    refine zm ?_
    refine zb fun K kk hK => ?_
    simp only [go_sem, h77, of_decide_eq_true h77, hl0a, hl0b, hl0d, hl0w]
    (repeat refine sd ?_)
    refine hK _ _ fun nx => ?_; clear hK K; try clear kk
    by_cases h78 : (decide (WB < (40 : Int))) = true
    ·rw [if_pos h78] at hh
     refine zn (by first | exact congrArg PV.bool h78 | rfl) ?_
     refine zx ?_; refine nmx ?_
     refine zm ?_
     refine zC ?_
     obtain ⟨apE, h79, hh⟩ := zf hh
     obtain ⟨atI, h80, hh⟩ := zf hh
     obtain ⟨h80a, h80b, h80c⟩ := rd_some h80
     have h80d := vz (f := PV.str) h80c
     have h80f := wX (f := PV.str) h80c
     try simp only [Int.toNat_natCast, Int.reduceToNat] at h80d h80f
     simp only [List.length_cons, List.length_nil, List.map_cons, List.map_nil, Nat.zero_add, Nat.reduceAdd, reduceCtorEq, not_false_eq_true, and_true, pvE] at h80b h80d h80f
     refine zb fun K kk hK => ?_
     simp only [go_sem, h80a, h80b, h80d, h80f, hl0a, hl0b, hl0d, hl0w]
     (repeat refine sd ?_)
     refine ze (qg _ _ _ h79) (by (try simp only [go_sem, h80a, h80b, h80d, h80f, hl0a, hl0b, hl0d, hl0w]) <;> exact wkl) (by rfl) (by rfl) ?_
     simp only [go_sem, h80a, h80b, h80d, h80f, hl0a, hl0b, hl0d, hl0w]
     (repeat refine sd ?_)
     refine hK _ _ fun nx => ?_; clear hK K; try clear kk
     refine zm ?_
     obtain ⟨e7, f7, hh⟩ := zf hh
     refine VI (fun s => ∃ aov, aov = e7 ∧ ∃ (nx : Nat) (g2 : Nat) (g3 : Nat) (g4 : Nat) (g5 : Nat) (g7 : Nat) (g332 : Nat) (g351 : Nat), s = ⟨[(0, .list 4 (l_1.map zt.pv)), (2, .box 2 g2 0), (3, .row 3 g3 [([97] : Str), ([98, 99] : Str), ([195, 169] : Str), ([120, 32, 121] : Str), ([230, 151, 165, 230, 156, 172] : Str)].length), (4, .box 4 g4 0), (5, .row 5 g5 yf.length), (6, .int .i64 WB), (7, .box 7 g7 0)], [(2, g2, .var 28 [.str ([] : Str), .str ([] : Str), .list 1 ([].map PV.str), .list 2 ([].map zg.pv), .list 5 ([].map za.pv)]), (3, g3, .row false 1 ([([97] : Str), ([98, 99] : Str), ([195, 169] : Str), ([120, 32, 121] : Str), ([230, 151, 165, 230, 156, 172] : Str)].map PV.str)), (4, g4, .var 28 [.str ([100, 111, 99] : Str), .str ([] : Str), .list 1 ([].map PV.str), .list 2 ([].map zg.pv), .row 332 g332 Zc.length]), (5, g5, .row false 5 (yf.map za.pv)), (7, g7, .var 28 [.str ([116, 101, 120, 116] : Str), .str atI, .row 351 g351 aov.length, .list 2 ([].map zg.pv), .list 5 ([].map za.pv)]), (332, g332, .row false 5 (Zc.map za.pv)), (351, g351, .row false 1 (aov.map PV.str))], nx⟩)
      (fun i s => False)
      (fun s => False) ?_ ?_ ?_ ?_
     ·have hh := f7
      obtain ⟨acP, h81, hh⟩ := zf hh
      refine zb fun K kk hK => ?_
      simp only [go_sem, hl0a, hl0b, hl0d, hl0w]
      refine ze (qg _ _ _ h81) (by (try simp only [go_sem, hl0a, hl0b, hl0d, hl0w]) <;> exact wkl) (by rfl) (by rfl) ?_
      simp only [go_sem, hl0a, hl0b, hl0d, hl0w]
      refine hK _ _ fun nx => ?_; clear hK K; try clear kk
      by_cases h82 : ((ajV acP (1 : Int)) == (1 : Int)) = true
      ·rw [if_pos h82] at hh
       refine zn (by first | exact congrArg PV.bool h82 | rfl) ?_
       obtain ⟨anL, h83, hh⟩ := zf hh
       obtain ⟨h83a, h83c⟩ := zX h83
       have h83d := qP (f := PV.str) h83c
       have h83e := (qQ h83c).symm
       try simp only [List.length_cons, List.length_nil, Nat.zero_add, Nat.reduceAdd] at h83a h83e
       try simp only [List.map_cons, List.map_nil, List.nil_append, List.append_nil, List.cons_append, List.singleton_append, zq, pvE] at h83d
       have h83g := amd (f := PV.str) h83e
       have h83h := atE h83e h83a
       refine zu fun K kk hK => ?_
       simp only [go_sem, h83a, h83d, eq_true h83e, eq_true (Nat.le_of_eq h83e.symm), h83g, hl0a, hl0b, hl0d, hl0w]
       (repeat refine sd ?_)
       refine hK _ _ fun nx => ?_; clear hK K; try clear kk
       refine nmx ?_
       refine kN ?_
       refine zJ ?_
       refine ⟨_, (Option.some.inj hh), ?_⟩
       first | exact ⟨_, _, _, _, _, _, _, _, rfl⟩ | (simp only [pvE, lsE, zq, h83e]; exact ⟨_, _, _, _, _, _, _, _, rfl⟩) | (simp only [pvE, lsE, zq, h83e, h77, h78, h82]; exact ⟨_, _, _, _, _, _, _, _, rfl⟩)
      ·rw [if_neg h82] at hh
       replace h82 := Bool.eq_false_iff.mpr h82
       refine zh (by first | exact congrArg PV.bool h82 | rfl) ?_
       refine zx ?_; refine nmx ?_
       refine kN ?_
       refine arI (ami _ [0, 2, 3, 4, 5, 6, 7] [2, 3, 4, 5, 7, 332, 351]) ?_
       refine ⟨_, (Option.some.inj hh), ?_⟩
       first | exact ⟨_, _, _, _, _, _, _, _, rfl⟩ | (simp only [pvE, lsE, zq]; exact ⟨_, _, _, _, _, _, _, _, rfl⟩) | (simp only [pvE, lsE, zq, h77, h78, h82]; exact ⟨_, _, _, _, _, _, _, _, rfl⟩)
     ·rintro s ⟨aov, rfl, nx, g2, g3, g4, g5, g7, g332, g351, rfl⟩
      try dsimp only at hh
      refine zm ?_
      obtain ⟨e8, f8, hh⟩ := zf hh
      refine VI (fun s => ∃ arh, arh = e8 ∧ ∃ (nx : Nat) (g2 : Nat) (g3 : Nat) (g4 : Nat) (g5 : Nat) (g7 : Nat) (g332 : Nat) (g351 : Nat), s = ⟨[(0, .list 4 (l_1.map zt.pv)), (2, .box 2 g2 0), (3, .row 3 g3 [([97] : Str), ([98, 99] : Str), ([195, 169] : Str), ([120, 32, 121] : Str), ([230, 151, 165, 230, 156, 172] : Str)].length), (4, .box 4 g4 0), (5, .row 5 g5 yf.length), (6, .int .i64 WB), (7, .box 7 g7 0)], [(2, g2, .var 28 [.str ([] : Str), .str ([] : Str), .list 1 ([].map PV.str), .list 2 ([].map zg.pv), .list 5 ([].map za.pv)]), (3, g3, .row false 1 ([([97] : Str), ([98, 99] : Str), ([195, 169] : Str), ([120, 32, 121] : Str), ([230, 151, 165, 230, 156, 172] : Str)].map PV.str)), (4, g4, .var 28 [.str ([100, 111, 99] : Str), .str ([] : Str), .list 1 ([].map PV.str), .list 2 ([].map zg.pv), .row 332 g332 Zc.length]), (5, g5, .row false 5 (yf.map za.pv)), (7, g7, .var 28 [.str ([116, 101, 120, 116] : Str), .str atI, .row 351 g351 arh.length, .list 2 ([].map zg.pv), .list 5 ([].map za.pv)]), (332, g332, .row false 5 (Zc.map za.pv)), (351, g351, .row false 1 (arh.map PV.str))], nx⟩)
       (fun i s => False)
       (fun s => False) ?_ ?_ ?_ ?_
      ·have hh := f8
       obtain ⟨ac3, h84, hh⟩ := zf hh
       refine zb fun K kk hK => ?_
       simp only [go_sem, hl0a, hl0b, hl0d, hl0w]
       refine ze (qg _ _ _ h84) (by (try simp only [go_sem, hl0a, hl0b, hl0d, hl0w]) <;> exact wkl) (by rfl) (by rfl) ?_
       simp only [go_sem, hl0a, hl0b, hl0d, hl0w]
       refine hK _ _ fun nx => ?_; clear hK K; try clear kk
       by_cases h85 : ((ajV ac3 (2 : Int)) == (2 : Int)) = true
       ·rw [if_pos h85] at hh
        refine zn (by first | exact congrArg PV.bool h85 | rfl) ?_
        obtain ⟨auV, h86, hh⟩ := zf hh
        obtain ⟨h86a, h86c⟩ := zX h86
        have h86d := qP (f := PV.str) h86c
        have h86e := qQ h86c
        try simp only [List.length_cons, List.length_nil, Nat.zero_add, Nat.reduceAdd] at h86a h86e
        try simp only [h86e] at h86a
        try simp only [List.map_cons, List.map_nil, List.nil_append, List.append_nil, List.cons_append, List.singleton_append, zq, pvE] at h86d
        refine zu fun K kk hK => ?_
        simp only [go_sem, h86a, h86d, h86e, hl0a, hl0b, hl0d, hl0w]
        (repeat refine sd ?_)
        refine hK _ _ fun nx => ?_; clear hK K; try clear kk
        refine nmx ?_
        refine kN ?_
        refine zJ ?_
        refine ⟨_, (Option.some.inj hh), ?_⟩
        first | exact ⟨_, _, _, _, _, _, _, _, rfl⟩ | (simp only [pvE, lsE, zq, h86e]; exact ⟨_, _, _, _, _, _, _, _, rfl⟩) | (simp only [pvE, lsE, zq, h86e, h77, h78, h85]; exact ⟨_, _, _, _, _, _, _, _, rfl⟩)
       ·rw [if_neg h85] at hh
        replace h85 := Bool.eq_false_iff.mpr h85
        refine zh (by first | exact congrArg PV.bool h85 | rfl) ?_
        refine zx ?_; refine nmx ?_
        refine kN ?_
        refine arI (ami _ [0, 2, 3, 4, 5, 6, 7] [2, 3, 4, 5, 7, 332, 351]) ?_
        refine ⟨_, (Option.some.inj hh), ?_⟩
        first | exact ⟨_, _, _, _, _, _, _, _, rfl⟩ | (simp only [pvE, lsE, zq]; exact ⟨_, _, _, _, _, _, _, _, rfl⟩) | (simp only [pvE, lsE, zq, h77, h78, h85]; exact ⟨_, _, _, _, _, _, _, _, rfl⟩)
      ·rintro s ⟨arh, rfl, nx, g2, g3, g4, g5, g7, g332, g351, rfl⟩
       try dsimp only at hh
       obtain ⟨avE, h87, hh⟩ := zf hh
       obtain ⟨h87a, h87c⟩ := zX h87
       have h87d := qP (f := za.pv) h87c
       have h87e := qQ h87c
       try simp only [List.length_cons, List.length_nil, Nat.zero_add, Nat.reduceAdd] at h87a h87e
       try simp only [h87e] at h87a
       try simp only [List.map_cons, List.map_nil, List.nil_append, List.append_nil, List.cons_append, List.singleton_append, zq, pvE] at h87d
       refine zb fun K kk hK => ?_
       simp only [go_sem, h87a, h87d, h87e, hl0a, hl0b, hl0d, hl0w]
       (repeat refine sd ?_)
       refine hK _ _ fun nx => ?_; clear hK K; try clear kk
       obtain ⟨XC, h88, hh⟩ := zf hh
       refine zb fun K kk hK => ?_
       simp only [go_sem, hl0a, hl0b, hl0d, hl0w]
       refine ze (qg _ _ _ h88) (by (try simp only [go_sem, hl0a, hl0b, hl0d, hl0w]) <;> exact wkl) (by rfl) (by rfl) ?_
       simp only [go_sem, hl0a, hl0b, hl0d, hl0w]
       refine hK _ _ fun nx => ?_; clear hK K; try clear kk
       refine zm ?_
       refine zb fun K kk hK => ?_
       simp only [go_sem, hl0a, hl0b, hl0d, hl0w]
       refine hK _ _ fun nx => ?_; clear hK K; try clear kk
       by_cases h89 : (XC == (0 : Int)) = true
       ·rw [if_pos h89] at hh
        refine zn (by first | exact congrArg PV.bool h89 | rfl) ?_
        refine zZ ?_; refine nmx ?_
        refine zu fun K kk hK => ?_
        simp only [go_sem, hl0a, hl0b, hl0d, hl0w]
        refine hK _ _ fun nx => ?_; clear hK K; try clear kk
        refine nmx ?_
        have ih' := ih (pre ++ [aeU]) (WB + 1) _ _ (by rw [hsplit]; simp) (by simp [hidx]) hh nx
        refine zJ ?_
        first | exact ih' _ _ _ _ _ | (simp only [pvE, lsE, zq, h87e] at ih' ⊢; exact ih' _ _ _ _ _) | (simp only [pvE, lsE, zq, h87e, h77, h78, h89] at ih' ⊢; exact ih' _ _ _ _ _)
       ·rw [if_neg h89] at hh
        replace h89 := Bool.eq_false_iff.mpr h89
        refine zh (by first | exact congrArg PV.bool h89 | rfl) ?_
        refine zx ?_; refine nmx ?_
        obtain ⟨xC, h90, hh⟩ := zf hh
        refine zb fun K kk hK => ?_
        simp only [go_sem, hl0a, hl0b, hl0d, hl0w]
        refine ze (Yv _ _ _ h90) (by (try simp only [go_sem, hl0a, hl0b, hl0d, hl0w]) <;> exact wkl) (by rfl) (by rfl) ?_
        simp only [go_sem, hl0a, hl0b, hl0d, hl0w]
        refine hK _ _ fun nx => ?_; clear hK K; try clear kk
        refine zb fun K kk hK => ?_
        simp only [go_sem, hl0a, hl0b, hl0d, hl0w]
        refine hK _ _ fun nx => ?_; clear hK K; try clear kk
        refine zb fun K kk hK => ?_
        simp only [go_sem, hl0a, hl0b, hl0d, hl0w]
        refine hK _ _ fun nx => ?_; clear hK K; try clear kk
        refine zm ?_
        refine zb fun K kk hK => ?_
        simp only [go_sem, hl0a, hl0b, hl0d, hl0w]
        refine hK _ _ fun nx => ?_; clear hK K; try clear kk
        by_cases h91 : (decide (XC < (3 : Int))) = true
        ·rw [if_pos h91] at hh
         refine zn (by first | exact congrArg PV.bool h91 | rfl) ?_
         obtain ⟨auN, h92, hh⟩ := zf hh
         obtain ⟨h92a, h92c⟩ := zX h92
         have h92d := qP (f := za.pv) h92c
         have h92e := qQ h92c
         try simp only [List.length_cons, List.length_nil, Nat.zero_add, Nat.reduceAdd] at h92a h92e
         try simp only [h92e] at h92a
         try simp only [List.map_cons, List.map_nil, List.nil_append, List.append_nil, List.cons_append, List.singleton_append, zq, pvE] at h92d
         refine zb fun K kk hK => ?_
         simp only [go_sem, h92a, h92d, h92e, hl0a, hl0b, hl0d, hl0w]
         (repeat refine sd ?_)
         refine hK _ _ fun nx => ?_; clear hK K; try clear kk
         refine zZ ?_; refine nmx ?_
         refine zu fun K kk hK => ?_
         simp only [go_sem, hl0a, hl0b, hl0d, hl0w]
         refine hK _ _ fun nx => ?_; clear hK K; try clear kk
         refine nmx ?_
         have ih' := ih (pre ++ [aeU]) (WB + 1) _ _ (by rw [hsplit]; simp) (by simp [hidx]) hh nx
         refine zJ ?_
         first | exact ih' _ _ _ _ _ | (simp only [pvE, lsE, zq, h87e, h92e] at ih' ⊢; exact ih' _ _ _ _ _) | (simp only [pvE, lsE, zq, h87e, h92e, h77, h78, h89, h91] at ih' ⊢; exact ih' _ _ _ _ _)
        ·rw [if_neg h91] at hh
         replace h91 := Bool.eq_false_iff.mpr h91
         refine zh (by first | exact congrArg PV.bool h91 | rfl) ?_
         refine zx ?_; refine nmx ?_
         refine zb fun K kk hK => ?_
         simp only [go_sem, hl0a, hl0b, hl0d, hl0w]
         refine hK _ _ fun nx => ?_; clear hK K; try clear kk
         refine zm ?_
         obtain ⟨e9, f9, hh⟩ := zf hh
         refine VI (fun s => .inr () = e9 ∧ ∃ (awn : Bool) (nx : Nat) (g2 : Nat) (g3 : Nat) (g4 : Nat) (g5 : Nat) (g11 : Nat) (g332 : Nat) (g381 : Nat), s = ⟨[(0, .list 4 (l_1.map zt.pv)), (2, .box 2 g2 0), (3, .row 3 g3 [([97] : Str), ([98, 99] : Str), ([195, 169] : Str), ([120, 32, 121] : Str), ([230, 151, 165, 230, 156, 172] : Str)].length), (4, .box 4 g4 0), (5, .row 5 g5 ([] : List za).length), (6, .int .i64 WB), (10, .int .i64 (w64 ((Zc.length : Int) - (1 : Int)))), (11, .box 11 g11 0), (108, .bool awn)], [(2, g2, .var 28 [.str ([] : Str), .str ([] : Str), .list 1 ([].map PV.str), .list 2 ([].map zg.pv), .list 5 ([].map za.pv)]), (3, g3, .row false 1 ([([97] : Str), ([98, 99] : Str), ([195, 169] : Str), ([120, 32, 121] : Str), ([230, 151, 165, 230, 156, 172] : Str)].map PV.str)), (4, g4, .var 28 [.str ([100, 111, 99] : Str), .str ([] : Str), .list 1 ([].map PV.str), .list 2 ([].map zg.pv), .row 332 g332 Zc.length]), (5, g5, .row false 5 (([] : List za).map za.pv)), (11, g11, .var 28 [.str ([105, 116, 101, 109] : Str), .str ([] : Str), .list 1 ([].map PV.str), .list 2 ([].map zg.pv), .row 381 g381 [xC].length]), (332, g332, .row false 5 (Zc.map za.pv)), (381, g381, .row false 5 ([xC].map za.pv))], nx⟩)
          (fun i s => (i = 1 ∧ ∃ amw, .inl amw = e9 ∧ ∃ (nx : Nat) (g2 : Nat) (g3 : Nat) (g4 : Nat) (g5 : Nat) (g332 : Nat), s = ⟨[(0, .list 4 (l_1.map zt.pv)), (2, .box 2 g2 0), (3, .row 3 g3 [([97] : Str), ([98, 99] : Str), ([195, 169] : Str), ([120, 32, 121] : Str), ([230, 151, 165, 230, 156, 172] : Str)].length), (4, .box 4 g4 0), (5, .row 5 g5 ([] : List za).length), (6, .int .i64 WB)], [(2, g2, .var 28 [.str ([] : Str), .str ([] : Str), .list 1 ([].map PV.str), .list 2 ([].map zg.pv), .list 5 ([].map za.pv)]), (3, g3, .row false 1 ([([97] : Str), ([98, 99] : Str), ([195, 169] : Str), ([120, 32, 121] : Str), ([230, 151, 165, 230, 156, 172] : Str)].map PV.str)), (4, g4, .var 28 [.str ([100, 111, 99] : Str), .str ([] : Str), .list 1 ([].map PV.str), .list 2 ([].map zg.pv), .row 332 g332 amw.length]), (5, g5, .row false 5 (([] : List za).map za.pv)), (332, g332, .row false 5 (amw.map za.pv))], nx⟩))
          (fun s => False) ?_ ?_ ?_ ?_
         ·have hh := f9
          by_cases h93 : (decide ((w64 ((Zc.length : Int) - (1 : Int))) ≥ (0 : Int))) = true
          ·rw [if_pos h93] at hh
           obtain ⟨akJ, h94, hh⟩ := zf hh
           obtain ⟨h94a, h94b, h94c⟩ := rd_some h94
           have h94d := vz (f := za.pv) h94c
           have h94f := wX (f := za.pv) h94c
           try simp only [Int.toNat_natCast, Int.reduceToNat] at h94d h94f
           by_cases h95 : (akJ.Kind == ([108, 105, 115, 116] : Str)) = true
           ·rw [if_pos h95] at hh
            refine zb fun K kk hK => ?_
            simp only [go_sem, h93, of_decide_eq_true h93, h94a, h94b, h94d, h94f.1, h94f.2, h95, hl0a, hl0b, hl0d, hl0w]
            (repeat refine sd ?_)
            refine hK _ _ fun nx => ?_; clear hK K; try clear kk
            by_cases h96 : (XC == (3 : Int)) = true
            ·rw [if_pos h96] at hh
             refine zn (by first | exact congrArg PV.bool h96 | rfl) ?_
             refine zb fun K kk hK => ?_
             simp only [go_sem, h94a, h94b, h94d, h94f.1, h94f.2, hl0a, hl0b, hl0d, hl0w]
             (repeat refine sd ?_)
             refine hK _ _ fun nx => ?_; clear hK K; try clear kk
             obtain ⟨aoA, h97, hh⟩ := zf hh
             obtain ⟨h97a, h97c⟩ := zX h97
             have h97d := qP (f := za.pv) h97c
             have h97e := qQ h97c
             try simp only [List.length_cons, List.length_nil, Nat.zero_add, Nat.reduceAdd] at h97a h97e
             try simp only [h97e] at h97a
             try simp only [List.map_cons, List.map_nil, List.nil_append, List.append_nil, List.cons_append, List.singleton_append, zq, pvE] at h97d
             obtain ⟨atT, h98, hh⟩ := zf hh
             obtain ⟨h98a, h98c⟩ := zX h98
             have h98d := qP (f := za.pv) h98c
             have h98e := qQ h98c
             try simp only [List.length_cons, List.length_nil, Nat.zero_add, Nat.reduceAdd] at h98a h98e
             try simp only [h98e] at h98a
             try simp only [List.map_cons, List.map_nil, List.nil_append, List.append_nil, List.cons_append, List.singleton_append, zq, pvE] at h98d
             refine aob (.nrm 11 [none, none, none, none, some 5]) ?_
             refine zb fun K kk hK => ?_
             simp only [go_sem, h97a, h97d, h97e, h98a, h98d, h98e, hl0a, hl0b, hl0d, hl0w]
             (repeat refine sd ?_)
             refine hK _ _ fun nx => ?_; clear hK K; try clear kk
             obtain ⟨atS, h99, hh⟩ := zf hh
             obtain ⟨h99a, h99c⟩ := WS h99
             have h99g := aa9 h99a
             have h99d := aaw (f := za.pv) h99c
             try simp only [Int.toNat_natCast, Int.reduceToNat, List.map_cons, List.map_nil, pvE] at h99d
             obtain ⟨aub, h100, hh⟩ := zf hh
             obtain ⟨h100a, h100c⟩ := zX h100
             have h100d := qP (f := za.pv) h100c
             have h100e := qQ h100c
             try simp only [List.length_cons, List.length_nil, Nat.zero_add, Nat.reduceAdd] at h100a h100e
             try simp only [h100e] at h100a
             try simp only [List.map_cons, List.map_nil, List.nil_append, List.append_nil, List.cons_append, List.singleton_append, zq, pvE] at h100d
             obtain ⟨aun, h101, hh⟩ := zf hh
             obtain ⟨h101a, h101c⟩ := zX h101
             have h101d := qP (f := za.pv) h101c
             have h101e := qQ h101c
             try simp only [List.length_cons, List.length_nil, Nat.zero_add, Nat.reduceAdd] at h101a h101e
             try simp only [h101e] at h101a
             try simp only [List.map_cons, List.map_nil, List.nil_append, List.append_nil, List.cons_append, List.singleton_append, zq, pvE] at h101d
             refine zb fun K kk hK => ?_
             simp only [go_sem, h99a.1, h99a.2.1, h99a.2.2, h99d, h99g, h100a, h100d, h100e, h101a, h101d, h101e, hl0a, hl0b, hl0d, hl0w]
             (repeat refine sd ?_)
             refine hK _ _ fun nx => ?_; clear hK K; try clear kk
             refine zZ ?_; refine nmx ?_
             refine atf ⟨rfl, _, (Option.some.inj hh), ?_⟩
             first | exact ⟨_, _, _, _, _, _, rfl⟩ | (simp only [pvE, lsE, zq, h87e, h97e, h97d, h98e, h100e, h100d, h101e]; exact ⟨_, _, _, _, _, _, rfl⟩) | (simp only [pvE, lsE, zq, h87e, h97e, h97d, h98e, h100e, h100d, h101e, h77, h78, h89, h91, h93, h95, h96]; exact ⟨_, _, _, _, _, _, rfl⟩)
            ·rw [if_neg h96] at hh
             replace h96 := Bool.eq_false_iff.mpr h96
             refine zh (by first | exact congrArg PV.bool h96 | rfl) ?_
             refine zx ?_; refine nmx ?_
             refine kN ?_
             refine zJ ?_
             refine ⟨(Option.some.inj hh), ?_⟩
             first | exact ⟨_, _, _, _, _, _, _, _, _, rfl⟩ | (simp only [pvE, lsE, zq, h87e]; exact ⟨_, _, _, _, _, _, _, _, _, rfl⟩) | (simp only [pvE, lsE, zq, h87e, h77, h78, h89, h91, h93, h95, h96]; exact ⟨_, _, _, _, _, _, _, _, _, rfl⟩)
           ·rw [if_neg h95] at hh
            replace h95 := Bool.eq_false_iff.mpr h95
            refine zb fun K kk hK => ?_
            simp only [go_sem, h93, of_decide_eq_true h93, h94a, h94b, h94d, h94f.1, h94f.2, h95, hl0a, hl0b, hl0d, hl0w]
            (repeat refine sd ?_)
            refine hK _ _ fun nx => ?_; clear hK K; try clear kk
            refine zh rfl ?_
            refine zx ?_; refine nmx ?_
            refine kN ?_
            refine zJ ?_
            refine ⟨(Option.some.inj hh), ?_⟩
            first | exact ⟨_, _, _, _, _, _, _, _, _, rfl⟩ | (simp only [pvE, lsE, zq, h87e]; exact ⟨_, _, _, _, _, _, _, _, _, rfl⟩) | (simp only [pvE, lsE, zq, h87e, h77, h78, h89, h91, h93, h95]; exact ⟨_, _, _, _, _, _, _, _, _, rfl⟩)
          ·rw [if_neg h93] at hh
           replace h93 := Bool.eq_false_iff.mpr h93
           refine zb fun K kk hK => ?_
           simp only [go_sem, h93, of_decide_eq_false h93, hl0a, hl0b, hl0d, hl0w]
           (repeat refine sd ?_)
           refine hK _ _ fun nx => ?_; clear hK K; try clear kk
           refine zh rfl ?_
           refine zx ?_; refine nmx ?_
           refine kN ?_
           refine zJ ?_
           refine ⟨(Option.some.inj hh), ?_⟩
           first | exact ⟨_, _, _, _, _, _, _, _, _, rfl⟩ | (simp only [pvE, lsE, zq, h87e]; exact ⟨_, _, _, _, _, _, _, _, _, rfl⟩) | (simp only [pvE, lsE, zq, h87e, h77, h78, h89, h91, h93]; exact ⟨_, _, _, _, _, _, _, _, _, rfl⟩)
         ·rintro s ⟨rfl, awn, nx, g2, g3, g4, g5, g11, g332, g381, rfl⟩
          try dsimp only at hh
          refine zm ?_
          by_cases h102 : (decide ((w64 ((Zc.length : Int) - (1 : Int))) ≥ (0 : Int))) = true
          ·rw [if_pos h102] at hh
           obtain ⟨alh, h103, hh⟩ := zf hh
           obtain ⟨h103a, h103b, h103c⟩ := rd_some h103
           have h103d := vz (f := za.pv) h103c
           have h103f := wX (f := za.pv) h103c
           try simp only [Int.toNat_natCast, Int.reduceToNat] at h103d h103f
           by_cases h104 : (alh.Kind == ([108, 105, 115, 116] : Str)) = true
           ·rw [if_pos h104] at hh
            obtain ⟨Y8, h105, hh⟩ := zf hh
            refine zb fun K kk hK => ?_
            simp only [go_sem, h102, of_decide_eq_true h102, h103a, h103b, h103d, h103f.1, h103f.2, h104, hl0a, hl0b, hl0d, hl0w]
            (repeat refine sd ?_)
            refine ze (YB _ _ h105) (by (try simp only [go_sem, h102, of_decide_eq_true h102, h103a, h103b, h103d, h103f.1, h103f.2, h104, hl0a, hl0b, hl0d, hl0w]) <;> exact wkl) (by rfl) (by rfl) ?_
            simp only [go_sem, h102, of_decide_eq_true h102, h103a, h103b, h103d, h103f.1, h103f.2, h104, hl0a, hl0b, hl0d, hl0w]
            (repeat refine sd ?_)
            refine hK _ _ fun nx => ?_; clear hK K; try clear kk
            by_cases h106 : (decide (Y8 < (30 : Int))) = true
            ·rw [if_pos h106] at hh
             refine zn (by first | exact congrArg PV.bool h106 | rfl) ?_
             obtain ⟨auq, h107, hh⟩ := zf hh
             obtain ⟨h107a, h107c⟩ := zX h107
             have h107d := qP (f := za.pv) h107c
             have h107e := (qQ h107c).symm
             try simp only [List.length_cons, List.length_nil, Nat.zero_add, Nat.reduceAdd] at h107a h107e
             try simp only [List.map_cons, List.map_nil, List.nil_append, List.append_nil, List.cons_append, List.singleton_append, zq, pvE] at h107d
             have h107g := amd (f := za.pv) h107e
             have h107h := atE h107e h107a
             refine zb fun K kk hK => ?_
             simp only [go_sem, h103a, h103b, h103d, h103f.1, h103f.2, h107a, h107d, eq_true h107e, eq_true (Nat.le_of_eq h107e.symm), h107g, hl0a, hl0b, hl0d, hl0w]
             (repeat refine sd ?_)
             refine hK _ _ fun nx => ?_; clear hK K; try clear kk
             obtain ⟨atH, h108, hh⟩ := zf hh
             obtain ⟨h108a, h108c⟩ := WS h108
             have h108g := aa9 h108a
             have h108d := aaw (f := za.pv) h108c
             try simp only [Int.toNat_natCast, Int.reduceToNat, List.map_cons, List.map_nil, pvE] at h108d
             obtain ⟨at6, h109, hh⟩ := zf hh
             obtain ⟨h109a, h109c⟩ := zX h109
             have h109d := qP (f := za.pv) h109c
             have h109e := qQ h109c
             try simp only [List.length_cons, List.length_nil, Nat.zero_add, Nat.reduceAdd] at h109a h109e
             try simp only [h109e] at h109a
             try simp only [List.map_cons, List.map_nil, List.nil_append, List.append_nil, List.cons_append, List.singleton_append, zq, pvE] at h109d
             refine zu fun K kk hK => ?_
             simp only [go_sem, h108a.1, h108a.2.1, h108a.2.2, h108d, h108g, h109a, h109d, h109e, eq_true h107e, eq_true (Nat.le_of_eq h107e.symm), h107g, hl0a, hl0b, hl0d, hl0w]
             (repeat refine sd ?_)
             refine hK _ _ fun nx => ?_; clear hK K; try clear kk
             refine nmx ?_
             obtain ⟨auO, h110, hh⟩ := zf hh
             obtain ⟨h110a, h110c⟩ := zX h110
             have h110d := qP (f := za.pv) h110c
             have h110e := qQ h110c
             try simp only [List.length_cons, List.length_nil, Nat.zero_add, Nat.reduceAdd] at h110a h110e
             try simp only [h110e] at h110a
             try simp only [List.map_cons, List.map_nil, List.nil_append, List.append_nil, List.cons_append, List.singleton_append, zq, pvE] at h110d
             refine zu fun K kk hK => ?_
             simp only [go_sem, h110a, h110d, h110e, eq_true h107e, eq_true (Nat.le_of_eq h107e.symm), h107g, hl0a, hl0b, hl0d, hl0w]
             (repeat refine sd ?_)
             refine hK _ _ fun nx => ?_; clear hK K; try clear kk
             refine nmx ?_
             refine zu fun K kk hK => ?_
             simp only [go_sem, eq_true h107e, eq_true (Nat.le_of_eq h107e.symm), h107g, hl0a, hl0b, hl0d, hl0w]
             refine hK _ _ fun nx => ?_; clear hK K; try clear kk
             refine nmx ?_
             have ih' := ih (pre ++ [aeU]) (WB + 1) _ _ (by rw [hsplit]; simp) (by simp [hidx]) hh nx
             refine zJ ?_
             first | exact ih' _ _ _ _ _ | (simp only [pvE, lsE, zq, h87e, h107e, h109e, h109d, h110e] at ih' ⊢; exact ih' _ _ _ _ _) | (simp only [pvE, lsE, zq, h87e, h107e, h109e, h109d, h110e, h102, h104, h106, h77, h78, h89, h91] at ih' ⊢; exact ih' _ _ _ _ _)
            ·rw [if_neg h106] at hh
             replace h106 := Bool.eq_false_iff.mpr h106
             refine zh (by first | exact congrArg PV.bool h106 | rfl) ?_
             refine zx ?_; refine nmx ?_
             obtain ⟨aug, h111, hh⟩ := zf hh
             obtain ⟨h111a, h111c⟩ := zX h111
             have h111d := qP (f := za.pv) h111c
             have h111e := qQ h111c
             try simp only [List.length_cons, List.length_nil, Nat.zero_add, Nat.reduceAdd] at h111a h111e
             try simp only [h111e] at h111a
             try simp only [List.map_cons, List.map_nil, List.nil_append, List.append_nil, List.cons_append, List.singleton_append, zq, pvE] at h111d
             refine zu fun K kk hK => ?_
             simp only [go_sem, h111a, h111d, h111e, hl0a, hl0b, hl0d, hl0w]
             (repeat refine sd ?_)
             refine hK _ _ fun nx => ?_; clear hK K; try clear kk
             refine nmx ?_
             refine zu fun K kk hK => ?_
             simp only [go_sem, hl0a, hl0b, hl0d, hl0w]
             refine hK _ _ fun nx => ?_; clear hK K; try clear kk
             refine nmx ?_
             have ih' := ih (pre ++ [aeU]) (WB + 1) _ _ (by rw [hsplit]; simp) (by simp [hidx]) hh nx
             refine zJ ?_
             first | exact ih' _ _ _ _ _ | (simp only [pvE, lsE, zq, h87e, h111e] at ih' ⊢; exact ih' _ _ _ _ _) | (simp only [pvE, lsE, zq, h87e, h111e, h102, h104, h106, h77, h78, h89, h91] at ih' ⊢; exact ih' _ _ _ _ _)
           ·rw [if_neg h104] at hh
            replace h104 := Bool.eq_false_iff.mpr h104
            refine zb fun K kk hK => ?_
            simp only [go_sem, h102, of_decide_eq_true h102, h103a, h103b, h103d, h103f.1, h103f.2, h104, hl0a, hl0b, hl0d, hl0w]
            (repeat refine sd ?_)
            refine hK _ _ fun nx => ?_; clear hK K; try clear kk
            refine zh rfl ?_
            refine zx ?_; refine nmx ?_
            obtain ⟨auC, h112, hh⟩ := zf hh
            obtain ⟨h112a, h112c⟩ := zX h112
            have h112d := qP (f := za.pv) h112c
            have h112e := qQ h112c
            try simp only [List.length_cons, List.length_nil, Nat.zero_add, Nat.reduceAdd] at h112a h112e
            try simp only [h112e] at h112a
            try simp only [List.map_cons, List.map_nil, List.nil_append, List.append_nil, List.cons_append, List.singleton_append, zq, pvE] at h112d
            refine zu fun K kk hK => ?_
            simp only [go_sem, h112a, h112d, h112e, hl0a, hl0b, hl0d, hl0w]
            (repeat refine sd ?_)
            refine hK _ _ fun nx => ?_; clear hK K; try clear kk
            refine nmx ?_
            refine zu fun K kk hK => ?_
            simp only [go_sem, hl0a, hl0b, hl0d, hl0w]
            refine hK _ _ fun nx => ?_; clear hK K; try clear kk
            refine nmx ?_
            have ih' := ih (pre ++ [aeU]) (WB + 1) _ _ (by rw [hsplit]; simp) (by simp [hidx]) hh nx
            refine zJ ?_
            first | exact ih' _ _ _ _ _ | (simp only [pvE, lsE, zq, h87e, h112e] at ih' ⊢; exact ih' _ _ _ _ _) | (simp only [pvE, lsE, zq, h87e, h112e, h102, h104, h77, h78, h89, h91] at ih' ⊢; exact ih' _ _ _ _ _)
          ·rw [if_neg h102] at hh
           replace h102 := Bool.eq_false_iff.mpr h102
           refine zb fun K kk hK => ?_
           simp only [go_sem, h102, of_decide_eq_false h102, hl0a, hl0b, hl0d, hl0w]
           (repeat refine sd ?_)
           refine hK _ _ fun nx => ?_; clear hK K; try clear kk
           refine zh rfl ?_
           refine zx ?_; refine nmx ?_
           obtain ⟨auI, h113, hh⟩ := zf hh
           obtain ⟨h113a, h113c⟩ := zX h113
           have h113d := qP (f := za.pv) h113c
           have h113e := qQ h113c
           try simp only [List.length_cons, List.length_nil, Nat.zero_add, Nat.reduceAdd] at h113a h113e
           try simp only [h113e] at h113a
           try simp only [List.map_cons, List.map_nil, List.nil_append, List.append_nil, List.cons_append, List.singleton_append, zq, pvE] at h113d
           refine zu fun K kk hK => ?_
           simp only [go_sem, h113a, h113d, h113e, hl0a, hl0b, hl0d, hl0w]
           (repeat refine sd ?_)
           refine hK _ _ fun nx => ?_; clear hK K; try clear kk
           refine nmx ?_
           refine zu fun K kk hK => ?_
           simp only [go_sem, hl0a, hl0b, hl0d, hl0w]
           refine hK _ _ fun nx => ?_; clear hK K; try clear kk
           refine nmx ?_
           have ih' := ih (pre ++ [aeU]) (WB + 1) _ _ (by rw [hsplit]; simp) (by simp [hidx]) hh nx
           refine zJ ?_
           first | exact ih' _ _ _ _ _ | (simp only [pvE, lsE, zq, h87e, h113e] at ih' ⊢; exact ih' _ _ _ _ _) | (simp only [pvE, lsE, zq, h87e, h113e, h102, h77, h78, h89, h91] at ih' ⊢; exact ih' _ _ _ _ _)
         ·intro i s h
          obtain ⟨rfl, amw, rfl, nx, g2, g3, g4, g5, g332, rfl⟩ := h
          try dsimp only at hh
          refine nmx ?_
          refine zu fun K kk hK => ?_
          simp only [go_sem, hl0a, hl0b, hl0d, hl0w]
          refine hK _ _ fun nx => ?_; clear hK K; try clear kk
          refine nmx ?_
          have ih' := ih (pre ++ [aeU]) (WB + 1) _ _ (by rw [hsplit]; simp) (by simp [hidx]) hh nx
          refine zJ ?_
          first | exact ih' _ _ _ _ _ | (simp only [pvE, lsE, zq, h87e] at ih' ⊢; exact ih' _ _ _ _ _) | (simp only [pvE, lsE, zq, h87e, h77, h78, h89, h91] at ih' ⊢; exact ih' _ _ _ _ _)
         ·intro s h; exact h.elim
      ·intro i s h; exact h.elim
      ·intro s h; exact h.elim
     ·intro i s h; exact h.elim
     ·intro s h; exact h.elim
    ·rw [if_neg h78] at hh
     replace h78 := Bool.eq_false_iff.mpr h78
     refine zh (by first | exact congrArg PV.bool h78 | rfl) ?_
     refine zZ ?_; refine nmx ?_
     refine kN ?_
     refine zJ ?_
     refine ⟨_, (Option.some.inj hh), ?_⟩
     first | exact ⟨_, _, _, _, _, _, _, _, _, rfl⟩ | (simp only [pvE, lsE, zq]; exact ⟨_, _, _, _, _, _, _, _, _, rfl⟩) | (simp only [pvE, lsE, zq, h77, h78]; exact ⟨_, _, _, _, _, _, _, _, _, rfl⟩)
  exact key l_1 [] _ _ _ rfl rfl f0 _ _ _ _ _ _
 ·rintro s ⟨t, hless, ap8, rfl, awq, aws, aii, nx, g2, g3, g4, g5, g332, rfl⟩
  try dsimp only at hh
  refine nmy ?_
  first | (refine wm hless ?_; try refine kz ?_) | refine qH hless ?_ | refine qG hless ?_
  refine zb fun K kk hK => ?_
  simp only [go_sem]
  refine hK _ _ fun nx => ?_; clear hK K; try clear kk
  refine zi ?_; refine nmx ?_
  obtain hR := Option.some.inj hh
  subst hR
  exact zy
 ·intro i s h; exact h.elim
 ·intro s h; exact h.elim
theorem K3 (l : Str) (R : (Str × (List UInt8))) (hh : vJ l = some R) : BC Tryd.prog 54 [.box 1000 0 0] [.var 101 [.wF 1000 0, .row 1001 0 l.length], .bytes 5 l] (.str R.1) [.var 101 [.wF 1000 0, .undef], .gone] := by
 rw [vJ] at hh
 exact acA (ρ := Tryd.Yx) Tryd.at0 Tryd.acJ ⟨_, Tryd.func54, by kernel_rfl, by kernel_rfl⟩ l R hh
theorem Wi (l : Str) (R : (List UInt8)) (hh : kV l = some R) : BC Tryd.prog 88 [.box 1000 0 0] [.var 101 [.wF 1000 0, .row 1001 0 l.length], .bytes 5 l] (.tup []) [.var 101 [.wF 1000 0, .row 1001 0 R.length], .bytes 5 R] := by
 rw [kV] at hh
 exact aiY ⟨_, Tryd.func88, by kernel_rfl, by kernel_rfl⟩ (Any.Builder_copyCheck_fresh (ρ := Tryd.V6) { Tryd.apF with } Tryd.Jk.toX72) (Any.Builder_copyCheck_used (ρ := Tryd.V6) { Tryd.apF with } Tryd.Jk.toX72) l R hh
theorem QG (s_1 : Str) (l_2 : (List UInt8)) (R : (Int × (List UInt8))) (hh : wI s_1 l_2 = some R) : BC Tryd.prog 53 [.box 1000 0 0, .str s_1] [.var 101 [.wF 1000 0, .row 1001 0 l_2.length], .bytes 5 l_2] (.tup [.int .i64 R.1, .Ya]) [.var 101 [.wF 1000 0, .row 1001 0 R.2.length], .Kv 5 R.2] := by
 rw [wI] at hh
 refine ZF rfl rfl rfl ?_
 refine zb fun K kk hK => ?_
 simp only [go_sem]
 refine hK _ _ fun nx => ?_; clear hK K; try clear kk
 obtain ⟨l_3, h1, hh⟩ := zf hh
 refine zb fun K kk hK => ?_
 simp only [go_sem]
 refine jK [1000, 1001] (by decide) (Wi _ _ h1) (by (try simp only [go_sem]) <;> exact wkb) (by rfl) ?_
 simp only [go_sem]
 refine hK _ _ fun nx => ?_; clear hK K; try clear kk
 obtain ⟨l_4, h2, hh⟩ := zf hh
 obtain ⟨h2a, h2c⟩ := zX h2
 have h2d := qP (f := pvB) h2c
 have h2e := qQ h2c
 try simp only [List.length_cons, List.length_nil, Nat.zero_add, Nat.reduceAdd] at h2a h2e
 try simp only [h2e] at h2a
 try simp only [List.map_cons, List.map_nil, List.nil_append, List.append_nil, List.cons_append, List.singleton_append, zq, pvE] at h2d
 refine zb fun K kk hK => ?_
 simp only [go_sem, h2a, h2c, h2e]
 (repeat refine sd ?_)
 refine hK _ _ fun nx => ?_; clear hK K; try clear kk
 refine zb fun K kk hK => ?_
 simp only [go_sem]
 refine hK _ _ fun nx => ?_; clear hK K; try clear kk
 refine zi ?_; refine nmx ?_
 obtain hR := Option.some.inj hh
 subst hR
 refine vo ?_ (by rfl) ?_
 ·simp only [go_sem, wJ, jU, kH, vH, Zd, List.map_cons, List.map_append, List.head?_cons]
  all_goals exact wkw
 ·(try simp only [go_sem]); (try simp only [List.length_append, List.map_append, h2e]); all_goals exact wkb
end Go.Proofs.YtclohbgnaopjfaaDoor
