/- Texts of the proof of stepTokensCard -/
import Derived.Test.YtclohbgnaopjfaaGreatDoorAgC
import Derived.Test.YtclohbgnaopjfaaGreatDoorAgF
import Derived.Test.YtclohbgnaopjfaaGreatDoorAgL
namespace Go.Proofs.YtclohbgnaopjfaaGreatDoor
set_option linter.unusedSimpArgs false
set_option linter.unusedVariables false
open Go
set_option maxRecDepth 100000
theorem XE (l : (List Str)) (sep : Str) (R : Str) (hh : strings_Join l sep = some R) : PC Tryz.prog 80 [.list 1 (l.map PV.str), .str sep] (.str R) := by
 rw [strings_Join] at hh
 exact asP ⟨_, Tryz.func80, by kernel_rfl, by kernel_rfl⟩ Tryz.strings_Join_none Tryz.strings_Join l sep R hh
theorem QC (s : Str) (old : Str) (new : Str) (R : Str) (hh : strings_ReplaceAll s old new = some R) : PC Tryz.prog 119 [.str s, .str old, .str new] (.str R) := by
 rw [strings_ReplaceAll] at hh
 exact agn ⟨_, Tryz.func119, by kernel_rfl, by kernel_rfl⟩ (fun _ h => avx h) Tryz.strings_ReplaceAll s old new R hh
theorem ahu (s_1 : Str) (R : Str) (hh : Ww s_1 = some R) : PC Tryz.prog 81 [.str s_1] (.str R) := by
 rw [Ww] at hh
 refine ac6 rfl ?_
 refine zb fun K kk hK => ?_
 simp only [go_sem]
 refine hK _ _ fun nx => ?_; clear hK K; try clear kk
 obtain ⟨al6, h1, hh⟩ := ze hh
 refine zb fun K kk hK => ?_
 simp only [go_sem]
 refine zg (QC _ _ _ _ h1) (by (try simp only [go_sem]) <;> exact wkl) (by rfl) (by rfl) ?_
 simp only [go_sem]
 refine hK _ _ fun nx => ?_; clear hK K; try clear kk
 obtain ⟨ach, h2, hh⟩ := ze hh
 obtain ⟨h3, hh⟩ := zR hh
 obtain ⟨h4, hh⟩ := zR hh
 refine zb fun K kk hK => ?_
 simp only [go_sem, h3, h4]
 (repeat refine sd ?_)
 refine zg (QC _ _ _ _ h2) (by (try simp only [go_sem, h3, h4]) <;> exact wkl) (by rfl) (by rfl) ?_
 simp only [go_sem, h3, h4]
 (repeat refine sd ?_)
 refine hK _ _ fun nx => ?_; clear hK K; try clear kk
 refine zn ?_; refine nmx ?_
 obtain hR := Option.some.inj hh
 subst hR
 exact zz
theorem aaT (n_1 : za) (R : Str) (hh : QS n_1 = some R) : PC Tryz.prog 39 [.agg [.str n_1.Kind, .str n_1.Text, .list 1 (n_1.Marks.map PV.str), .list 2 (n_1.zq.map zf.pv), .list 5 (n_1.Kids.map za.pv)]] (.str R) := by
 rw [QS] at hh
 refine aeC rfl ?_
 refine zb fun K kk hK => ?_
 simp only [go_sem]
 refine hK _ _ fun nx => ?_; clear hK K; try clear kk
 refine zm ?_
 refine zb fun K kk hK => ?_
 simp only [go_sem]
 refine hK _ _ fun nx => ?_; clear hK K; try clear kk
 by_cases h1 : (n_1.Kind == ([116, 101, 120, 116] : Str)) = true
 ·rw [if_pos h1] at hh
  refine zk (by first | exact congrArg PV.bool h1 | rfl) ?_
  refine zm ?_
  refine zb fun K kk hK => ?_
  simp only [go_sem]
  refine hK _ _ fun nx => ?_; clear hK K; try clear kk
  by_cases h2 : ((n_1.Marks.length : Int) == (0 : Int)) = true
  ·rw [if_pos h2] at hh
   refine zk (by first | exact congrArg PV.bool h2 | rfl) ?_
   refine zb fun K kk hK => ?_
   simp only [go_sem]
   refine hK _ _ fun nx => ?_; clear hK K; try clear kk
   refine zn ?_; refine nmx ?_
   obtain hR := Option.some.inj hh
   subst hR
   exact zz
  ·rw [if_neg h2] at hh
   replace h2 := Bool.eq_false_iff.mpr h2
   refine zh (by first | exact congrArg PV.bool h2 | rfl) ?_
   refine zy ?_; refine nmx ?_
   obtain ⟨ako, h3, hh⟩ := ze hh
   obtain ⟨h4, hh⟩ := zR hh
   obtain ⟨h5, hh⟩ := zR hh
   refine zb fun K kk hK => ?_
   simp only [go_sem, h4, h5]
   (repeat refine sd ?_)
   refine zg (XE _ _ _ h3) (by (try simp only [go_sem, h4, h5]) <;> exact wkl) (by rfl) (by rfl) ?_
   simp only [go_sem, h4, h5]
   (repeat refine sd ?_)
   refine hK _ _ fun nx => ?_; clear hK K; try clear kk
   refine zn ?_; refine nmx ?_
   obtain hR := Option.some.inj hh
   subst hR
   exact zz
 ·rw [if_neg h1] at hh
  replace h1 := Bool.eq_false_iff.mpr h1
  refine zh (by first | exact congrArg PV.bool h1 | rfl) ?_
  refine zy ?_; refine nmx ?_
  refine zm ?_
  refine zb fun K kk hK => ?_
  simp only [go_sem]
  refine hK _ _ fun nx => ?_; clear hK K; try clear kk
  by_cases h6 : ((n_1.zq.length : Int) == (0 : Int)) = true
  ·rw [if_pos h6] at hh
   refine zk (by first | exact congrArg PV.bool h6 | rfl) ?_
   refine zb fun K kk hK => ?_
   simp only [go_sem]
   refine hK _ _ fun nx => ?_; clear hK K; try clear kk
   refine zn ?_; refine nmx ?_
   obtain hR := Option.some.inj hh
   subst hR
   exact zz
  ·rw [if_neg h6] at hh
   replace h6 := Bool.eq_false_iff.mpr h6
   refine zh (by first | exact congrArg PV.bool h6 | rfl) ?_
   refine zy ?_; refine nmx ?_
   refine zb fun K kk hK => ?_
   simp only [go_sem]
   refine hK _ _ fun nx => ?_; clear hK K; try clear kk
   refine zm ?_
   refine zb fun K kk hK => ?_
   simp only [go_sem]
   refine hK _ _ fun nx => ?_; clear hK K; try clear kk
   obtain ⟨e0, f0, hh⟩ := ze hh
   obtain ⟨hlen0, f0⟩ := zR f0
   refine qz (w9 (fun s => ∃ aql, aql = e0 ∧ ∃ (QD : Int) (asI : Bool) (nx : Nat) (g1 : Nat) (g3 : Nat), s = ⟨[(1, .box 1 g1 0), (3, .row 3 g3 aql.length), (25, .list 2 (n_1.zq.map zf.pv)), (26, .int .i64 (n_1.zq.length : Int)), (27, .int .i64 QD), (28, .bool asI)], [(1, g1, .var 28 [.str n_1.Kind, .str n_1.Text, .list 1 (n_1.Marks.map PV.str), .list 2 (n_1.zq.map zf.pv), .list 5 (n_1.Kids.map za.pv)]), (3, g3, .row false 1 (aql.map PV.str))], nx⟩))
    (fun i s => False)
    (fun s => False) ?_ ?_ ?_ ?_
   ·refine zC ?_
    refine qi fun I hI => ?_
    have key : ∀ (suf pre : List zf) (v_6 : Int) (l_7 : (List Str)), n_1.zq = pre ++ suf → v_6 = (pre.length : Int) → jf suf v_6 l_7 = some e0 → ∀ (nx : Nat) (g1 : Nat) (g3 : Nat), I ⟨[(1, .box 1 g1 0), (3, .row 3 g3 l_7.length), (25, .list 2 (n_1.zq.map zf.pv)), (26, .int .i64 (n_1.zq.length : Int)), (27, .int .i64 v_6)], [(1, g1, .var 28 [.str n_1.Kind, .str n_1.Text, .list 1 (n_1.Marks.map PV.str), .list 2 (n_1.zq.map zf.pv), .list 5 (n_1.Kids.map za.pv)]), (3, g3, .row false 1 (l_7.map PV.str))], nx⟩ := by
     intro suf
     induction suf with
     | nil =>
      intro pre v_6 l_7 hsplit hidx hh nx g1 g3
      rw [jf] at hh
      refine hI _ ?_
      have h19 := walk_nil hsplit hidx
      refine zb fun K kk hK => ?_
      simp only [go_sem]
      refine hK _ _ fun nx => ?_; clear hK K; try clear kk
      refine zm ?_
      refine zh (by first | exact congrArg PV.bool h19 | rfl) ?_
      refine zV ?_; refine nmx ?_
      refine wU ?_
      refine zH ?_
      refine ⟨_, (Option.some.inj hh), ?_⟩
      first | exact ⟨_, _, _, _, _, rfl⟩ | (simp only [pvE, lsE, zo]; exact ⟨_, _, _, _, _, rfl⟩) | (simp only [pvE, lsE, zo, h1, h19, h6]; exact ⟨_, _, _, _, _, rfl⟩)
     | cons aqv suf ih =>
      intro pre v_6 l_7 hsplit hidx hh nx g1 g3
      rw [jf] at hh
      refine hI _ ?_
      obtain ⟨hl0a, hl0b, hl0d, hl0w, h19⟩ := qV (f := zf.pv) hsplit hidx hlen0
      refine zb fun K kk hK => ?_
      simp only [go_sem]
      refine hK _ _ fun nx => ?_; clear hK K; try clear kk
      refine zm ?_
      refine zk (by first | exact congrArg PV.bool h19 | rfl) ?_
      refine zy ?_; refine nmx ?_
      refine zm ?_
      refine zC ?_
      refine zb fun K kk hK => ?_
      simp only [go_sem, hl0a, hl0b, hl0d, hl0w]
      refine hK _ _ fun nx => ?_; clear hK K; try clear kk
      obtain ⟨h20, hh⟩ := zR hh
      obtain ⟨ahr, h21, hh⟩ := ze hh
      obtain ⟨h22, hh⟩ := zR hh
      obtain ⟨ari, h23, hh⟩ := ze hh
      obtain ⟨h23a, h23c⟩ := zX h23
      have h23d := qF (f := PV.str) h23c
      have h23e := qE h23c
      try simp only [List.length_cons, List.length_nil, Nat.zero_add, Nat.reduceAdd] at h23a h23e
      try simp only [h23e] at h23a
      try simp only [List.map_cons, List.map_nil, List.nil_append, List.append_nil, List.cons_append, List.singleton_append, zo, pvE] at h23d
      refine zt fun K kk hK => ?_
      simp only [go_sem, h20, h22, h23a, h23d, h23e, hl0a, hl0b, hl0d, hl0w]
      (repeat refine sd ?_)
      refine zg (ahu _ _ h21) (by (try simp only [go_sem, h20, h22, h23a, h23d, h23e, hl0a, hl0b, hl0d, hl0w]) <;> exact wkl) (by rfl) (by rfl) ?_
      simp only [go_sem, h20, h22, h23a, h23d, h23e, hl0a, hl0b, hl0d, hl0w]
      (repeat refine sd ?_)
      refine hK _ _ fun nx => ?_; clear hK K; try clear kk
      refine nmx ?_
      refine zt fun K kk hK => ?_
      simp only [go_sem, hl0a, hl0b, hl0d, hl0w]
      refine hK _ _ fun nx => ?_; clear hK K; try clear kk
      refine nmx ?_
      have ih' := ih (pre ++ [aqv]) (v_6 + 1) _ (by rw [hsplit]; simp) (by simp [hidx]) hh nx
      refine zH ?_
      first | exact ih' _ _ | (simp only [pvE, lsE, zo, h23e] at ih' ⊢; exact ih' _ _) | (simp only [pvE, lsE, zo, h23e, h1, h19, h6] at ih' ⊢; exact ih' _ _)
    exact key n_1.zq [] _ _ rfl rfl f0 _ _ _
   ·rintro s ⟨t, hless, aql, rfl, QD, asI, nx, g1, g3, rfl⟩
    try dsimp only at hh
    refine nmy ?_
    first | (refine qW hless ?_; try refine wY ?_) | refine qC hless ?_ | refine qD hless ?_
    obtain ⟨h24, hh⟩ := zR hh
    obtain ⟨afP, h25, hh⟩ := ze hh
    obtain ⟨h26, hh⟩ := zR hh
    obtain ⟨h27, hh⟩ := zR hh
    refine agC (.nrm 3 [some 1]) ?_
    refine zb fun K kk hK => ?_
    simp only [go_sem, h24, h26, h27]
    (repeat refine sd ?_)
    refine zg (XE _ _ _ h25) (by (try simp only [go_sem, h24, h26, h27]) <;> exact wkl) (by rfl) (by rfl) ?_
    simp only [go_sem, h24, h26, h27]
    (repeat refine sd ?_)
    refine hK _ _ fun nx => ?_; clear hK K; try clear kk
    refine zn ?_; refine nmx ?_
    obtain hR := Option.some.inj hh
    subst hR
    exact zz
   ·intro i s h; exact h.elim
   ·intro s h; exact h.elim
theorem akp : ∀ kr : Nat, (∀ (l_1 : (List za)) (R : (List zx)), xA kr l_1 = some R → PC Tryz.prog 10 [.list 5 (l_1.map za.pv)] (.own 3 (R.map zx.pv))) := by
 intro kr
 induction kr with
 | zero => exact (by intro l_1 R hh; rw [xA] at hh; cases hh)
 | succ kr ih =>
  have ih_token_Of := ih
  clear ih
  intro l_1 R hh
  rw [xA] at hh
  refine af2 rfl ?_
  refine zb fun K kk hK => ?_
  simp only [go_sem]
  refine hK _ _ fun nx => ?_; clear hK K; try clear kk
  refine zb fun K kk hK => ?_
  simp only [go_sem]
  refine hK _ _ fun nx => ?_; clear hK K; try clear kk
  refine zm ?_
  refine zb fun K kk hK => ?_
  simp only [go_sem]
  refine hK _ _ fun nx => ?_; clear hK K; try clear kk
  obtain ⟨e0, f0, hh⟩ := ze hh
  obtain ⟨hlen0, f0⟩ := zR f0
  refine qz (w9 (fun s => ∃ aeF, aeF = e0 ∧ ∃ (awK : Int) (avG : Bool) (nx : Nat) (g3 : Nat), s = ⟨[(3, .row 3 g3 aeF.length), (8, .list 5 (l_1.map za.pv)), (9, .int .i64 (l_1.length : Int)), (10, .int .i64 awK), (11, .bool avG)], [(3, g3, .row false 3 (aeF.map zx.pv))], nx⟩))
   (fun i s => False)
   (fun s => False) ?_ ?_ ?_ ?_
  ·refine zC ?_
   refine qi fun I hI => ?_
   have key : ∀ (suf pre : List za) (abU : Int) (Jj : (List zx)), l_1 = pre ++ suf → abU = (pre.length : Int) → jQ (xA kr) suf abU Jj = some e0 → ∀ (nx : Nat) (g3 : Nat), I ⟨[(3, .row 3 g3 Jj.length), (8, .list 5 (l_1.map za.pv)), (9, .int .i64 (l_1.length : Int)), (10, .int .i64 abU)], [(3, g3, .row false 3 (Jj.map zx.pv))], nx⟩ := by
    intro suf
    induction suf with
    | nil =>
     intro pre abU Jj hsplit hidx hh nx g3
     rw [jQ] at hh
     refine hI _ ?_
     have h29 := walk_nil hsplit hidx
     refine zb fun K kk hK => ?_
     simp only [go_sem]
     refine hK _ _ fun nx => ?_; clear hK K; try clear kk
     refine zm ?_
     refine zh (by first | exact congrArg PV.bool h29 | rfl) ?_
     refine zV ?_; refine nmx ?_
     refine wU ?_
     refine zH ?_
     refine ⟨_, (Option.some.inj hh), ?_⟩
     first | exact ⟨_, _, _, _, rfl⟩ | (simp only [pvE, lsE, zo]; exact ⟨_, _, _, _, rfl⟩) | (simp only [pvE, lsE, zo, h29]; exact ⟨_, _, _, _, rfl⟩)
    | cons jY suf ih =>
     intro pre abU Jj hsplit hidx hh nx g3
     rw [jQ] at hh
     refine hI _ ?_
     obtain ⟨hl0a, hl0b, hl0d, hl0w, h29⟩ := qV (f := za.pv) hsplit hidx hlen0
     refine zb fun K kk hK => ?_
     simp only [go_sem]
     refine hK _ _ fun nx => ?_; clear hK K; try clear kk
     refine zm ?_
     refine zk (by first | exact congrArg PV.bool h29 | rfl) ?_
     refine zy ?_; refine nmx ?_
     refine zm ?_
     refine zC ?_
     refine zb fun K kk hK => ?_
     simp only [go_sem, hl0a, hl0b, hl0d, hl0w]
     refine hK _ _ fun nx => ?_; clear hK K; try clear kk
     refine zm ?_
     refine zb fun K kk hK => ?_
     simp only [go_sem, hl0a, hl0b, hl0d, hl0w]
     refine hK _ _ fun nx => ?_; clear hK K; try clear kk
     by_cases h30 : (jY.Kind == ([116, 101, 120, 116] : Str)) = true
     ·rw [if_pos h30] at hh
      refine zk (by first | exact congrArg PV.bool h30 | rfl) ?_
      refine zm ?_
      refine zb fun K kk hK => ?_
      simp only [go_sem, hl0a, hl0b, hl0d, hl0w]
      refine hK _ _ fun nx => ?_; clear hK K; try clear kk
      obtain ⟨e7, f7, hh⟩ := ze hh
      refine qz (w9 (fun s => ∃ QU, QU = e7 ∧ ∃ (arJ : Nat) (nx : Nat) (g3 : Nat) (g5 : Nat) (g19 : Nat), s = ⟨[(3, .row 3 g3 QU.length), (5, .box 5 g5 0), (8, .list 5 (l_1.map za.pv)), (9, .int .i64 (l_1.length : Int)), (10, .int .i64 abU), (19, .box 19 g19 0), (20, .tup [.bool false]), (21, .bool false)], [(3, g3, .row false 3 (QU.map zx.pv)), (5, g5, .var 28 [.str jY.Kind, .str jY.Text, .list 1 (jY.Marks.map PV.str), .list 2 (jY.zq.map zf.pv), .list 5 (jY.Kids.map za.pv)]), (19, g19, .iter jY.Text arJ)], nx⟩))
       (fun i s => False)
       (fun s => False) ?_ ?_ ?_ ?_
      ·refine zC ?_
       refine qi fun I hI => ?_
       obtain ⟨k, f7⟩ := jL f7
       have key : ∀ (k : Nat) (WN : (List zx)) (XO : Nat), jK jY k WN XO = some e7 → ∀ (nx : Nat) (g3 : Nat) (g5 : Nat) (g19 : Nat), I ⟨[(3, .row 3 g3 WN.length), (5, .box 5 g5 0), (8, .list 5 (l_1.map za.pv)), (9, .int .i64 (l_1.length : Int)), (10, .int .i64 abU), (19, .box 19 g19 0)], [(3, g3, .row false 3 (WN.map zx.pv)), (5, g5, .var 28 [.str jY.Kind, .str jY.Text, .list 1 (jY.Marks.map PV.str), .list 2 (jY.zq.map zf.pv), .list 5 (jY.Kids.map za.pv)]), (19, g19, .iter jY.Text XO)], nx⟩ := by
        intro k
        induction k with
        | zero => intro WN XO hh; rw [jK] at hh; cases hh
        | succ k ih =>
         intro WN XO hh nx g3 g5 g19
         rw [jK] at hh
         refine hI _ ?_
         refine ap4 ?_
         refine zm ?_
         obtain ⟨e9, f9, hh⟩ := ze hh
         refine Qg (fun s => .inr () = e9 ∧ ∃ (nx : Nat) (g3 : Nat) (g5 : Nat) (g19 : Nat), s = ⟨[(3, .row 3 g3 WN.length), (5, .box 5 g5 0), (8, .list 5 (l_1.map za.pv)), (9, .int .i64 (l_1.length : Int)), (10, .int .i64 abU), (19, .box 19 g19 0), (20, .tup [.bool true, .int .i64 (XO : Int), .int .i32 (amX jY.Text XO)]), (21, .bool true)], [(3, g3, .row false 3 (WN.map zx.pv)), (5, g5, .var 28 [.str jY.Kind, .str jY.Text, .list 1 (jY.Marks.map PV.str), .list 2 (jY.zq.map zf.pv), .list 5 (jY.Kids.map za.pv)]), (19, g19, .iter jY.Text (XO + aeL jY.Text XO))], nx⟩)
          (fun i s => (i = 2 ∧ .inl () = e9 ∧ ∃ (nx : Nat) (g3 : Nat) (g5 : Nat) (g19 : Nat), s = ⟨[(3, .row 3 g3 WN.length), (5, .box 5 g5 0), (8, .list 5 (l_1.map za.pv)), (9, .int .i64 (l_1.length : Int)), (10, .int .i64 abU), (19, .box 19 g19 0), (20, .tup [.bool false]), (21, .bool false)], [(3, g3, .row false 3 (WN.map zx.pv)), (5, g5, .var 28 [.str jY.Kind, .str jY.Text, .list 1 (jY.Marks.map PV.str), .list 2 (jY.zq.map zf.pv), .list 5 (jY.Kids.map za.pv)]), (19, g19, .iter jY.Text XO)], nx⟩))
          (fun s => False) ?_ ?_ ?_ ?_
         ·have hh := f9
          by_cases h34 : (decide (XO < jY.Text.length)) = true
          ·rw [if_pos h34] at hh
           refine zb fun K kk hK => ?_
           simp only [go_sem, h34, of_decide_eq_true h34, hl0a, hl0b, hl0d, hl0w]
           (repeat refine sd ?_)
           refine hK _ _ fun nx => ?_; clear hK K; try clear kk
           refine zk rfl ?_
           refine zy ?_; refine nmx ?_
           refine wU ?_
           refine zH ?_
           refine ⟨(Option.some.inj hh), ?_⟩
           first | exact ⟨_, _, _, _, rfl⟩ | (simp only [pvE, lsE, zo]; exact ⟨_, _, _, _, rfl⟩) | (simp only [pvE, lsE, zo, h29, h30, h34]; exact ⟨_, _, _, _, rfl⟩)
          ·rw [if_neg h34] at hh
           replace h34 := Bool.eq_false_iff.mpr h34
           refine zb fun K kk hK => ?_
           simp only [go_sem, h34, of_decide_eq_false h34, hl0a, hl0b, hl0d, hl0w]
           (repeat refine sd ?_)
           refine hK _ _ fun nx => ?_; clear hK K; try clear kk
           refine zh rfl ?_
           refine zV ?_; refine nmx ?_
           refine al1 ⟨rfl, (Option.some.inj hh), ?_⟩
           first | exact ⟨_, _, _, _, rfl⟩ | (simp only [pvE, lsE, zo]; exact ⟨_, _, _, _, rfl⟩) | (simp only [pvE, lsE, zo, h29, h30, h34]; exact ⟨_, _, _, _, rfl⟩)
         ·rintro s ⟨rfl, nx, g3, g5, g19, rfl⟩
          try dsimp only at hh
          refine zC ?_
          refine zb fun K kk hK => ?_
          simp only [go_sem, hl0a, hl0b, hl0d, hl0w]
          refine hK _ _ fun nx => ?_; clear hK K; try clear kk
          obtain ⟨aok, h35, hh⟩ := ze hh
          obtain ⟨ash, h36, hh⟩ := ze hh
          obtain ⟨h36a, h36c⟩ := zX h36
          have h36d := qF (f := zx.pv) h36c
          have h36e := qE h36c
          try simp only [List.length_cons, List.length_nil, Nat.zero_add, Nat.reduceAdd] at h36a h36e
          try simp only [h36e] at h36a
          try simp only [List.map_cons, List.map_nil, List.nil_append, List.append_nil, List.cons_append, List.singleton_append, zo, pvE] at h36d
          refine zt fun K kk hK => ?_
          simp only [go_sem, h36a, h36d, h36e, hl0a, hl0b, hl0d, hl0w]
          (repeat refine sd ?_)
          refine zg (aaT _ _ h35) (by (try simp only [go_sem, h36a, h36d, h36e, hl0a, hl0b, hl0d, hl0w]) <;> exact wkl) (by rfl) (by rfl) ?_
          simp only [go_sem, h36a, h36d, h36e, hl0a, hl0b, hl0d, hl0w]
          (repeat refine sd ?_)
          refine hK _ _ fun nx => ?_; clear hK K; try clear kk
          refine nmx ?_
          have ih' := ih _ _ hh nx
          refine zH ?_
          first | exact ih' _ _ _ | (simp only [pvE, lsE, zo, h36e] at ih' ⊢; exact ih' _ _ _) | (simp only [pvE, lsE, zo, h36e, h29, h30] at ih' ⊢; exact ih' _ _ _)
         ·intro i s h
          obtain ⟨rfl, rfl, nx, g3, g5, g19, rfl⟩ := h
          try dsimp only at hh
          refine nmx ?_
          refine wU ?_
          refine zH ?_
          refine ⟨_, (Option.some.inj hh), ?_⟩
          first | exact ⟨_, _, _, _, _, rfl⟩ | (simp only [pvE, lsE, zo]; exact ⟨_, _, _, _, _, rfl⟩) | (simp only [pvE, lsE, zo, h29, h30]; exact ⟨_, _, _, _, _, rfl⟩)
         ·intro s h; exact h.elim
       exact key _ _ _ f7 _ _ _ _
      ·rintro s ⟨t, hless, QU, rfl, arJ, nx, g3, g5, g19, rfl⟩
       try dsimp only at hh
       refine nmy ?_
       first | (refine qW hless ?_; try refine wY ?_) | refine qC hless ?_ | refine qD hless ?_
       refine zV ?_; refine nmx ?_
       refine zt fun K kk hK => ?_
       simp only [go_sem, hl0a, hl0b, hl0d, hl0w]
       refine hK _ _ fun nx => ?_; clear hK K; try clear kk
       refine nmx ?_
       have ih' := ih (pre ++ [jY]) (abU + 1) _ (by rw [hsplit]; simp) (by simp [hidx]) hh nx
       refine zH ?_
       first | exact ih' _ | (simp only [pvE, lsE, zo] at ih' ⊢; exact ih' _) | (simp only [pvE, lsE, zo, h29, h30] at ih' ⊢; exact ih' _)
      ·intro i s h; exact h.elim
      ·intro s h; exact h.elim
     ·rw [if_neg h30] at hh
      replace h30 := Bool.eq_false_iff.mpr h30
      refine zh (by first | exact congrArg PV.bool h30 | rfl) ?_
      refine zy ?_; refine nmx ?_
      obtain ⟨aoL, h37, hh⟩ := ze hh
      obtain ⟨awF, h38, hh⟩ := ze hh
      obtain ⟨h38a, h38c⟩ := zX h38
      have h38d := qF (f := zx.pv) h38c
      have h38e := qE h38c
      try simp only [List.length_cons, List.length_nil, Nat.zero_add, Nat.reduceAdd] at h38a h38e
      try simp only [h38e] at h38a
      try simp only [List.map_cons, List.map_nil, List.nil_append, List.append_nil, List.cons_append, List.singleton_append, zo, pvE] at h38d
      refine zb fun K kk hK => ?_
      simp only [go_sem, h38a, h38d, h38e, hl0a, hl0b, hl0d, hl0w]
      (repeat refine sd ?_)
      refine zg (aaT _ _ h37) (by (try simp only [go_sem, h38a, h38d, h38e, hl0a, hl0b, hl0d, hl0w]) <;> exact wkl) (by rfl) (by rfl) ?_
      simp only [go_sem, h38a, h38d, h38e, hl0a, hl0b, hl0d, hl0w]
      (repeat refine sd ?_)
      refine hK _ _ fun nx => ?_; clear hK K; try clear kk
      obtain ⟨aur, h39, hh⟩ := ze hh
      obtain ⟨avN, h40, hh⟩ := ze hh
      obtain ⟨h40a, h40c⟩ := zX h40
      have h40d := qF (f := zx.pv) h40c
      have h40e := qE h40c
      try simp only [List.length_cons, List.length_nil, Nat.zero_add, Nat.reduceAdd] at h40a h40e
      try simp only [h40e] at h40a
      try simp only [List.map_cons, List.map_nil, List.nil_append, List.append_nil, List.cons_append, List.singleton_append, zo, pvE] at h40d
      refine zb fun K kk hK => ?_
      simp only [go_sem, h40a, h40d, h40e, hl0a, hl0b, hl0d, hl0w]
      (repeat refine sd ?_)
      refine zg (ih_token_Of _ _ h39).list (by (try simp only [go_sem, h40a, h40d, h40e, hl0a, hl0b, hl0d, hl0w]) <;> exact wkl) (by rfl) (by rfl) ?_
      simp only [go_sem, h40a, h40d, h40e, hl0a, hl0b, hl0d, hl0w]
      (repeat refine sd ?_)
      refine hK _ _ fun nx => ?_; clear hK K; try clear kk
      obtain ⟨avR, h41, hh⟩ := ze hh
      obtain ⟨h41a, h41c⟩ := zX h41
      have h41d := qF (f := zx.pv) h41c
      have h41e := qE h41c
      try simp only [List.length_cons, List.length_nil, Nat.zero_add, Nat.reduceAdd] at h41a h41e
      try simp only [h41e] at h41a
      try simp only [List.map_cons, List.map_nil, List.nil_append, List.append_nil, List.cons_append, List.singleton_append, zo, pvE] at h41d
      refine zt fun K kk hK => ?_
      simp only [go_sem, h41a, h41d, h41e, hl0a, hl0b, hl0d, hl0w]
      (repeat refine sd ?_)
      refine hK _ _ fun nx => ?_; clear hK K; try clear kk
      refine nmx ?_
      refine zt fun K kk hK => ?_
      simp only [go_sem, hl0a, hl0b, hl0d, hl0w]
      refine hK _ _ fun nx => ?_; clear hK K; try clear kk
      refine nmx ?_
      have ih' := ih (pre ++ [jY]) (abU + 1) _ (by rw [hsplit]; simp) (by simp [hidx]) hh nx
      refine zH ?_
      first | exact ih' _ | (simp only [pvE, lsE, zo, h38e, h40e, h41e] at ih' ⊢; exact ih' _) | (simp only [pvE, lsE, zo, h38e, h40e, h41e, h29, h30] at ih' ⊢; exact ih' _)
   exact key l_1 [] _ _ rfl rfl f0 _ _
  ·rintro s ⟨t, hless, aeF, rfl, awK, avG, nx, g3, rfl⟩
   try dsimp only at hh
   refine nmy ?_
   first | (refine qW hless ?_; try refine wY ?_) | refine qC hless ?_ | refine qD hless ?_
   refine zb fun K kk hK => ?_
   simp only [go_sem]
   refine hK _ _ fun nx => ?_; clear hK K; try clear kk
   refine zn ?_; refine nmx ?_
   obtain hR := Option.some.inj hh
   subst hR
   exact Xc (by rfl) (by rfl) (by rfl) (by simp only [List.length_map, List.length_cons, List.length_nil, Nat.zero_add, Nat.reduceAdd]) (by first | rfl | (simp only [pvE, lsE, zo]; done) | (simp only [pvE, lsE, zo]; rfl))
  ·intro i s h; exact h.elim
  ·intro s h; exact h.elim
theorem aeQ (l_1 : (List za)) (R : (List zx)) (hh : Z5 l_1 = some R) : PC Tryz.prog 10 [.list 5 (l_1.map za.pv)] (.own 3 (R.map zx.pv)) := by
 rw [Z5] at hh
 obtain ⟨kr, hh⟩ := jL hh
 exact (akp kr) _ _ hh
theorem kG (n_1 : za) (R : Bool) (hh : jg n_1 = some R) : PC Tryz.prog 107 [.agg [.str n_1.Kind, .str n_1.Text, .list 1 (n_1.Marks.map PV.str), .list 2 (n_1.zq.map zf.pv), .list 5 (n_1.Kids.map za.pv)]] (.bool R) := by
 rw [jg] at hh
 refine ac3 rfl ?_
 refine zb fun K kk hK => ?_
 simp only [go_sem]
 refine hK _ _ fun nx => ?_; clear hK K; try clear kk
 refine zb fun K kk hK => ?_
 simp only [go_sem]
 refine hK _ _ fun nx => ?_; clear hK K; try clear kk
 refine zn ?_; refine nmx ?_
 obtain hR := Option.some.inj hh
 subst hR
 exact zz
theorem ZO (s_1 : Str) (R : Int) (hh : wu s_1 = some R) : PC Tryz.prog 108 [.str s_1] (.int .i64 R) := by
 rw [wu] at hh
 refine yQ rfl ?_
 refine zb fun K kk hK => ?_
 simp only [go_sem]
 refine hK _ _ fun nx => ?_; clear hK K; try clear kk
 refine zm ?_
 refine zb fun K kk hK => ?_
 simp only [go_sem]
 refine hK _ _ fun nx => ?_; clear hK K; try clear kk
 obtain ⟨e0, f0, hh⟩ := ze hh
 refine qz (w9 (fun s => ∃ n_4, n_4 = e0 ∧ ∃ (v_5 : Nat) (nx : Nat) (g4 : Nat), s = ⟨[(2, .int .i64 n_4), (4, .box 4 g4 0), (6, .bool false)], [(4, g4, .iter s_1 v_5)], nx⟩))
  (fun i s => False)
  (fun s => False) ?_ ?_ ?_ ?_
 ·refine zC ?_
  refine qi fun I hI => ?_
  obtain ⟨k, f0⟩ := jL f0
  have key : ∀ (k : Nat) (n_2 : Int) (v_3 : Nat), zN s_1 k n_2 v_3 = some e0 → ∀ (nx : Nat) (g4 : Nat), I ⟨[(2, .int .i64 n_2), (4, .box 4 g4 0)], [(4, g4, .iter s_1 v_3)], nx⟩ := by
   intro k
   induction k with
   | zero => intro n_2 v_3 hh; rw [zN] at hh; cases hh
   | succ k ih =>
    intro n_2 v_3 hh nx g4
    rw [zN] at hh
    refine hI _ ?_
    by_cases h2 : (decide (v_3 < s_1.length)) = true
    ·rw [if_pos h2] at hh
     refine zb fun K kk hK => ?_
     simp only [go_sem, h2, of_decide_eq_true h2]
     (repeat refine sd ?_)
     refine hK _ _ fun nx => ?_; clear hK K; try clear kk
     refine zm ?_
     refine zk rfl ?_
     refine zy ?_; refine nmx ?_
     refine zC ?_
     refine zt fun K kk hK => ?_
     simp only [go_sem]
     refine hK _ _ fun nx => ?_; clear hK K; try clear kk
     refine nmx ?_
     have ih' := ih _ _ hh nx
     refine zH ?_
     first | exact ih' _ | (simp only [pvE, lsE, zo] at ih' ⊢; exact ih' _) | (simp only [pvE, lsE, zo, h2] at ih' ⊢; exact ih' _)
    ·rw [if_neg h2] at hh
     replace h2 := Bool.eq_false_iff.mpr h2
     refine zb fun K kk hK => ?_
     simp only [go_sem, h2, of_decide_eq_false h2]
     (repeat refine sd ?_)
     refine hK _ _ fun nx => ?_; clear hK K; try clear kk
     refine zm ?_
     refine zh rfl ?_
     refine zV ?_; refine nmx ?_
     refine wU ?_
     refine zH ?_
     refine ⟨_, (Option.some.inj hh), ?_⟩
     first | exact ⟨_, _, _, rfl⟩ | (simp only [pvE, lsE, zo]; exact ⟨_, _, _, rfl⟩) | (simp only [pvE, lsE, zo, h2]; exact ⟨_, _, _, rfl⟩)
  exact key _ _ _ f0 _ _
 ·rintro s ⟨t, hless, n_4, rfl, v_5, nx, g4, rfl⟩
  try dsimp only at hh
  refine nmy ?_
  first | (refine qW hless ?_; try refine wY ?_) | refine qC hless ?_ | refine qD hless ?_
  refine zb fun K kk hK => ?_
  simp only [go_sem]
  refine hK _ _ fun nx => ?_; clear hK K; try clear kk
  refine zn ?_; refine nmx ?_
  obtain hR := Option.some.inj hh
  subst hR
  exact zz
 ·intro i s h; exact h.elim
 ·intro s h; exact h.elim
theorem aaz : ∀ kr : Nat, (∀ (n_1 : za) (R : Int), jc kr n_1 = some R → PC Tryz.prog 68 [.agg [.str n_1.Kind, .str n_1.Text, .list 1 (n_1.Marks.map PV.str), .list 2 (n_1.zq.map zf.pv), .list 5 (n_1.Kids.map za.pv)]] (.int .i64 R)) ∧
  (∀ (l_1 : (List za)) (R : Int), xy kr l_1 = some R → PC Tryz.prog 34 [.list 5 (l_1.map za.pv)] (.int .i64 R)) := by
 intro kr
 induction kr with
 | zero => exact ⟨(by intro n_1 R hh; rw [jc] at hh; cases hh), (by intro l_1 R hh; rw [xy] at hh; cases hh)⟩
 | succ kr ih =>
  obtain ⟨ih_node_Size, ih_node_Total⟩ := ih
  refine ⟨?_, ?_⟩
  ·intro n_1 R hh
   rw [jc] at hh
   refine afw rfl ?_
   refine zb fun K kk hK => ?_
   simp only [go_sem]
   refine hK _ _ fun nx => ?_; clear hK K; try clear kk
   refine zm ?_
   obtain ⟨yf, h1, hh⟩ := ze hh
   refine zb fun K kk hK => ?_
   simp only [go_sem]
   refine zg (kG _ _ h1) (by (try simp only [go_sem]) <;> exact wkl) (by rfl) (by rfl) ?_
   simp only [go_sem]
   refine hK _ _ fun nx => ?_; clear hK K; try clear kk
   by_cases h2 : (yf) = true
   ·rw [if_pos h2] at hh
    refine zk (by first | exact congrArg PV.bool h2 | rfl) ?_
    obtain ⟨amS, h3, hh⟩ := ze hh
    refine zb fun K kk hK => ?_
    simp only [go_sem]
    refine zg (ZO _ _ h3) (by (try simp only [go_sem]) <;> exact wkl) (by rfl) (by rfl) ?_
    simp only [go_sem]
    refine hK _ _ fun nx => ?_; clear hK K; try clear kk
    refine zn ?_; refine nmx ?_
    obtain hR := Option.some.inj hh
    subst hR
    exact zz
   ·rw [if_neg h2] at hh
    replace h2 := Bool.eq_false_iff.mpr h2
    refine zh (by first | exact congrArg PV.bool h2 | rfl) ?_
    refine zy ?_; refine nmx ?_
    obtain ⟨aoy, h4, hh⟩ := ze hh
    refine zb fun K kk hK => ?_
    simp only [go_sem]
    refine zg (ih_node_Total _ _ h4) (by (try simp only [go_sem]) <;> exact wkl) (by rfl) (by rfl) ?_
    simp only [go_sem]
    refine hK _ _ fun nx => ?_; clear hK K; try clear kk
    refine zn ?_; refine nmx ?_
    obtain hR := Option.some.inj hh
    subst hR
    exact zz
  ·intro l_1 R hh
   rw [xy] at hh
   refine ad3 rfl ?_
   refine zb fun K kk hK => ?_
   simp only [go_sem]
   refine hK _ _ fun nx => ?_; clear hK K; try clear kk
   refine zb fun K kk hK => ?_
   simp only [go_sem]
   refine hK _ _ fun nx => ?_; clear hK K; try clear kk
   refine zm ?_
   refine zb fun K kk hK => ?_
   simp only [go_sem]
   refine hK _ _ fun nx => ?_; clear hK K; try clear kk
   obtain ⟨e0, f0, hh⟩ := ze hh
   obtain ⟨hlen0, f0⟩ := zR f0
   refine qz (w9 (fun s => ∃ acV, acV = e0 ∧ ∃ (KA : Int) (KU : Bool) (nx : Nat), s = ⟨[(3, .int .i64 acV), (6, .list 5 (l_1.map za.pv)), (7, .int .i64 (l_1.length : Int)), (8, .int .i64 KA), (9, .bool KU)], [], nx⟩))
    (fun i s => False)
    (fun s => False) ?_ ?_ ?_ ?_
   ·refine zC ?_
    refine qi fun I hI => ?_
    have key : ∀ (suf pre : List za) (v_5 : Int) (XV : Int), l_1 = pre ++ suf → v_5 = (pre.length : Int) → jb (jc kr) suf v_5 XV = some e0 → ∀ (nx : Nat), I ⟨[(3, .int .i64 XV), (6, .list 5 (l_1.map za.pv)), (7, .int .i64 (l_1.length : Int)), (8, .int .i64 v_5)], [], nx⟩ := by
     intro suf
     induction suf with
     | nil =>
      intro pre v_5 XV hsplit hidx hh nx
      rw [jb] at hh
      refine hI _ ?_
      have h7 := walk_nil hsplit hidx
      refine zb fun K kk hK => ?_
      simp only [go_sem]
      refine hK _ _ fun nx => ?_; clear hK K; try clear kk
      refine zm ?_
      refine zh (by first | exact congrArg PV.bool h7 | rfl) ?_
      refine zV ?_; refine nmx ?_
      refine wU ?_
      refine zH ?_
      refine ⟨_, (Option.some.inj hh), ?_⟩
      first | exact ⟨_, _, _, rfl⟩ | (simp only [pvE, lsE, zo]; exact ⟨_, _, _, rfl⟩) | (simp only [pvE, lsE, zo, h7]; exact ⟨_, _, _, rfl⟩)
     | cons y_8 suf ih =>
      intro pre v_5 XV hsplit hidx hh nx
      rw [jb] at hh
      refine hI _ ?_
      obtain ⟨hl0a, hl0b, hl0d, hl0w, h7⟩ := qV (f := za.pv) hsplit hidx hlen0
      refine zb fun K kk hK => ?_
      simp only [go_sem]
      refine hK _ _ fun nx => ?_; clear hK K; try clear kk
      refine zm ?_
      refine zk (by first | exact congrArg PV.bool h7 | rfl) ?_
      refine zy ?_; refine nmx ?_
      refine zm ?_
      refine zC ?_
      refine zb fun K kk hK => ?_
      simp only [go_sem, hl0a, hl0b, hl0d, hl0w]
      refine hK _ _ fun nx => ?_; clear hK K; try clear kk
      obtain ⟨asq, h8, hh⟩ := ze hh
      refine zt fun K kk hK => ?_
      simp only [go_sem, hl0a, hl0b, hl0d, hl0w]
      refine zg (ih_node_Size _ _ h8) (by (try simp only [go_sem, hl0a, hl0b, hl0d, hl0w]) <;> exact wkl) (by rfl) (by rfl) ?_
      simp only [go_sem, hl0a, hl0b, hl0d, hl0w]
      refine hK _ _ fun nx => ?_; clear hK K; try clear kk
      refine nmx ?_
      refine zt fun K kk hK => ?_
      simp only [go_sem, hl0a, hl0b, hl0d, hl0w]
      refine hK _ _ fun nx => ?_; clear hK K; try clear kk
      refine nmx ?_
      have ih' := ih (pre ++ [y_8]) (v_5 + 1) _ (by rw [hsplit]; simp) (by simp [hidx]) hh nx
      refine zH ?_
      first | exact ih' | (simp only [pvE, lsE, zo] at ih' ⊢; exact ih') | (simp only [pvE, lsE, zo, h7] at ih' ⊢; exact ih')
    exact key l_1 [] _ _ rfl rfl f0 _
   ·rintro s ⟨t, hless, acV, rfl, KA, KU, nx, rfl⟩
    try dsimp only at hh
    refine nmy ?_
    first | (refine qW hless ?_; try refine wY ?_) | refine qC hless ?_ | refine qD hless ?_
    refine zb fun K kk hK => ?_
    simp only [go_sem]
    refine hK _ _ fun nx => ?_; clear hK K; try clear kk
    refine zn ?_; refine nmx ?_
    obtain hR := Option.some.inj hh
    subst hR
    exact zz
   ·intro i s h; exact h.elim
   ·intro s h; exact h.elim
theorem ZT (n_1 : za) (R : Int) (hh : yE n_1 = some R) : PC Tryz.prog 68 [.agg [.str n_1.Kind, .str n_1.Text, .list 1 (n_1.Marks.map PV.str), .list 2 (n_1.zq.map zf.pv), .list 5 (n_1.Kids.map za.pv)]] (.int .i64 R) := by
 rw [yE] at hh
 obtain ⟨kr, hh⟩ := jL hh
 exact (aaz kr).1 _ _ hh
theorem xM (l_1 : (List za)) (R : Int) (hh : jT l_1 = some R) : PC Tryz.prog 34 [.list 5 (l_1.map za.pv)] (.int .i64 R) := by
 rw [jT] at hh
 obtain ⟨kr, hh⟩ := jL hh
 exact (aaz kr).2 _ _ hh
theorem ah6 (s_1 : zG) (R : (List zi)) (hh : Zk s_1 = some R) : PC Tryz.prog 11 [.agg [.int .u8 s_1.Kind, .int .i64 s_1.From, .int .i64 s_1.To, .list 5 (s_1.wJ.map za.pv), .str s_1.Name, .str s_1.Value]] (.list 3 (R.map zi.pv)) := by
 rw [Zk] at hh
 refine aeo rfl ?_
 refine zb fun K kk hK => ?_
 simp only [go_sem]
 refine hK _ _ fun nx => ?_; clear hK K; try clear kk
 obtain ⟨acW, h1, hh⟩ := ze hh
 refine zb fun K kk hK => ?_
 simp only [go_sem]
 refine zg (xM _ _ h1) (by (try simp only [go_sem]) <;> exact wkl) (by rfl) (by rfl) ?_
 simp only [go_sem]
 refine hK _ _ fun nx => ?_; clear hK K; try clear kk
 refine zm ?_
 by_cases h2 : (s_1.Kind != (114 : Int)) = true
 ·rw [if_pos h2] at hh
  refine zb fun K kk hK => ?_
  simp only [go_sem, h2]
  (repeat refine sd ?_)
  refine hK _ _ fun nx => ?_; clear hK K; try clear kk
  refine zk rfl ?_
  refine zb fun K kk hK => ?_
  simp only [go_sem]
  refine hK _ _ fun nx => ?_; clear hK K; try clear kk
  refine zn ?_; refine nmx ?_
  obtain hR := Option.some.inj hh
  subst hR
  exact zz
 ·rw [if_neg h2] at hh
  replace h2 := Bool.eq_false_iff.mpr h2
  by_cases h3 : (s_1.From == s_1.To) = true
  ·rw [if_pos h3] at hh
   refine zb fun K kk hK => ?_
   simp only [go_sem, h2, h3]
   (repeat refine sd ?_)
   refine hK _ _ fun nx => ?_; clear hK K; try clear kk
   by_cases h4 : (acW == (0 : Int)) = true
   ·rw [if_pos h4] at hh
    refine zk (by first | exact congrArg PV.bool h4 | rfl) ?_
    refine zb fun K kk hK => ?_
    simp only [go_sem]
    refine hK _ _ fun nx => ?_; clear hK K; try clear kk
    refine zn ?_; refine nmx ?_
    obtain hR := Option.some.inj hh
    subst hR
    exact zz
   ·rw [if_neg h4] at hh
    replace h4 := Bool.eq_false_iff.mpr h4
    refine zh (by first | exact congrArg PV.bool h4 | rfl) ?_
    refine zy ?_; refine nmx ?_
    refine zb fun K kk hK => ?_
    simp only [go_sem]
    refine hK _ _ fun nx => ?_; clear hK K; try clear kk
    refine zn ?_; refine nmx ?_
    obtain hR := Option.some.inj hh
    subst hR
    exact zz
  ·rw [if_neg h3] at hh
   replace h3 := Bool.eq_false_iff.mpr h3
   refine zb fun K kk hK => ?_
   simp only [go_sem, h2, h3]
   (repeat refine sd ?_)
   refine hK _ _ fun nx => ?_; clear hK K; try clear kk
   refine zh rfl ?_
   refine zy ?_; refine nmx ?_
   refine zb fun K kk hK => ?_
   simp only [go_sem]
   refine hK _ _ fun nx => ?_; clear hK K; try clear kk
   refine zn ?_; refine nmx ?_
   obtain hR := Option.some.inj hh
   subst hR
   exact zz
theorem VW (r_1 : zi) (R : Int) (hh : xc r_1 = some R) : PC Tryz.prog 40 [.agg [.int .i64 r_1.Pos, .int .i64 r_1.Old, .int .i64 r_1.New]] (.int .i64 R) := by
 rw [xc] at hh
 refine YL rfl ?_
 refine zb fun K kk hK => ?_
 simp only [go_sem]
 refine hK _ _ fun nx => ?_; clear hK K; try clear kk
 refine zb fun K kk hK => ?_
 simp only [go_sem]
 refine hK _ _ fun nx => ?_; clear hK K; try clear kk
 refine zn ?_; refine nmx ?_
 obtain hR := Option.some.inj hh
 subst hR
 exact zz
theorem ab0 (r_1 : zi) (kY : Int) (vz : Bool) (R : Bool) (hh : xE r_1 kY vz = some R) : PC Tryz.prog 41 [.agg [.int .i64 r_1.Pos, .int .i64 r_1.Old, .int .i64 r_1.New], .int .i64 kY, .bool vz] (.bool R) := by
 rw [xE] at hh
 refine XR rfl ?_
 refine zb fun K kk hK => ?_
 simp only [go_sem]
 refine hK _ _ fun nx => ?_; clear hK K; try clear kk
 refine zm ?_
 refine zC ?_
 refine zb fun K kk hK => ?_
 simp only [go_sem]
 refine hK _ _ fun nx => ?_; clear hK K; try clear kk
 by_cases h1 : (r_1.Old == (0 : Int)) = true
 ·rw [if_pos h1] at hh
  refine zk (by first | exact congrArg PV.bool h1 | rfl) ?_
  refine zb fun K kk hK => ?_
  simp only [go_sem]
  refine hK _ _ fun nx => ?_; clear hK K; try clear kk
  refine zn ?_; refine nmx ?_
  obtain hR := Option.some.inj hh
  subst hR
  exact zz
 ·rw [if_neg h1] at hh
  replace h1 := Bool.eq_false_iff.mpr h1
  refine zh (by first | exact congrArg PV.bool h1 | rfl) ?_
  refine zb fun K kk hK => ?_
  simp only [go_sem]
  refine hK _ _ fun nx => ?_; clear hK K; try clear kk
  by_cases h2 : (kY == r_1.Pos) = true
  ·rw [if_pos h2] at hh
   refine zk (by first | exact congrArg PV.bool h2 | rfl) ?_
   refine zb fun K kk hK => ?_
   simp only [go_sem]
   refine hK _ _ fun nx => ?_; clear hK K; try clear kk
   refine zn ?_; refine nmx ?_
   obtain hR := Option.some.inj hh
   subst hR
   exact zz
  ·rw [if_neg h2] at hh
   replace h2 := Bool.eq_false_iff.mpr h2
   refine zh (by first | exact congrArg PV.bool h2 | rfl) ?_
   refine zy ?_; refine nmx ?_
   by_cases h3 : (vz) = true
   ·rw [if_pos h3] at hh
    refine zb fun K kk hK => ?_
    simp only [go_sem, h3]
    (repeat refine sd ?_)
    refine hK _ _ fun nx => ?_; clear hK K; try clear kk
    refine zn ?_; refine nmx ?_
    obtain hR := Option.some.inj hh
    subst hR
    exact zz
   ·rw [if_neg h3] at hh
    replace h3 := Bool.eq_false_iff.mpr h3
    obtain ⟨auv, h4, hh⟩ := ze hh
    refine zb fun K kk hK => ?_
    simp only [go_sem, h3]
    (repeat refine sd ?_)
    refine zg (VW _ _ h4) (by (try simp only [go_sem, h3]) <;> exact wkl) (by rfl) (by rfl) ?_
    simp only [go_sem, h3]
    (repeat refine sd ?_)
    refine hK _ _ fun nx => ?_; clear hK K; try clear kk
    refine zn ?_; refine nmx ?_
    obtain hR := Option.some.inj hh
    subst hR
    exact zz
end Go.Proofs.YtclohbgnaopjfaaGreatDoor
