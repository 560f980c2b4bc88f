/- Texts of the proof of stepTokensCard -/
import Derived.Test.YtclohbgnaopjfaaGreatDoorAgC
import Derived.Test.YtclohbgnaopjfaaGreatDoorAgF
import Derived.Test.YtclohbgnaopjfaaGreatDoorAgK0
import Derived.Test.YtclohbgnaopjfaaGreatDoorAgK2
namespace Go.Proofs.YtclohbgnaopjfaaGreatDoor
set_option linter.unusedSimpArgs false
set_option linter.unusedVariables false
open Go
set_option maxRecDepth 100000
theorem kP (v_1 : Int) (Vo : qH) (R : (Int × qH)) (hh : wK v_1 Vo = some R) : BD Tryz.prog 109 [.box 1000 0 0, .box 1001 0 0] [.var 33 [.int .i64 v_1], .var 115 [.list 1 (Vo.path.map (PV.int .i64)), .str Vo.in_.Kind, .str Vo.in_.Text, .list 1 (Vo.in_.Marks.map PV.str), .list 2 (Vo.in_.zq.map zf.pv), .list 5 (Vo.in_.Kids.map za.pv), .int .i64 Vo.from_, .int .i64 Vo.to_]] (.tup []) [.var 33 [.int .i64 R.1], .var 115 [.list 1 (R.2.path.map (PV.int .i64)), .str R.2.in_.Kind, .str R.2.in_.Text, .list 1 (R.2.in_.Marks.map PV.str), .list 2 (R.2.in_.zq.map zf.pv), .list 5 (R.2.in_.Kids.map za.pv), .int .i64 R.2.from_, .int .i64 R.2.to_]] := by
 rw [wK] at hh
 refine XK rfl rfl rfl ?_
 refine zb fun K kk hK => ?_
 simp only [go_sem]
 refine hK _ _ fun nx => ?_; clear hK K; try clear kk
 by_cases h1 : (v_1 != (0 : Int)) = true
 ·rw [if_pos h1] at hh
  refine zk (by first | exact congrArg PV.bool h1 | rfl) ?_
  refine zt fun K kk hK => ?_
  simp only [go_sem]
  refine hK _ _ fun nx => ?_; clear hK K; try clear kk
  refine nmx ?_
  obtain hR := Option.some.inj hh
  subst hR
  refine adD ?_
  refine ji ?_ (by rfl) ?_
  ·simp only [go_sem, wX, j6, kW, vY, ZM, List.map_cons, List.map_append, List.head?_cons, h1]
   all_goals exact wkw
  ·(try simp only [go_sem, h1]); (try simp only [List.length_append, List.map_append]); all_goals exact wkb
 ·rw [if_neg h1] at hh
  replace h1 := Bool.eq_false_iff.mpr h1
  refine zh (by first | exact congrArg PV.bool h1 | rfl) ?_
  refine zy ?_; refine nmx ?_
  obtain hR := Option.some.inj hh
  subst hR
  refine adD ?_
  refine ji ?_ (by rfl) ?_
  ·simp only [go_sem, wX, j6, kW, vY, ZM, List.map_cons, List.map_append, List.head?_cons, h1]
   all_goals exact wkw
  ·(try simp only [go_sem, h1]); (try simp only [List.length_append, List.map_append]); all_goals exact wkb
theorem QP (n_1 : za) (kY : Int) (R : (wz × Int)) (hh : kg n_1 kY = some R) : PC Tryz.prog 110 [.agg [.str n_1.Kind, .str n_1.Text, .list 1 (n_1.Marks.map PV.str), .list 2 (n_1.zq.map zf.pv), .list 5 (n_1.Kids.map za.pv)], .int .i64 kY] (.tup [.agg [.list 1 (R.1.Path.map (PV.int .i64)), .int .i64 R.1.Index, .int .i64 R.1.Offset], .int .i64 R.2]) := by
 rw [kg] at hh
 refine aam rfl ?_
 refine zb fun K kk hK => ?_
 simp only [go_sem]
 refine hK _ _ fun nx => ?_; clear hK K; try clear kk
 refine ajo ?_
 refine zm ?_
 by_cases h1 : (n_1.Kind == ([116, 101, 120, 116] : Str)) = true
 ·rw [if_pos h1] at hh
  refine zb fun K kk hK => ?_
  simp only [go_sem, h1]
  (repeat refine sd ?_)
  refine hK _ _ fun nx => ?_; clear hK K; try clear kk
  refine zk rfl ?_
  refine zb fun K kk hK => ?_
  simp only [go_sem]
  refine hK _ _ fun nx => ?_; clear hK K; try clear kk
  refine zn ?_; refine nmx ?_
  obtain hR := Option.some.inj hh
  subst hR
  exact zz
 ·rw [if_neg h1] at hh
  replace h1 := Bool.eq_false_iff.mpr h1
  by_cases h2 : (decide (kY < (0 : Int))) = true
  ·rw [if_pos h2] at hh
   refine zb fun K kk hK => ?_
   simp only [go_sem, h1, h2, of_decide_eq_true h2]
   (repeat refine sd ?_)
   refine hK _ _ fun nx => ?_; clear hK K; try clear kk
   refine zk rfl ?_
   refine zb fun K kk hK => ?_
   simp only [go_sem]
   refine hK _ _ fun nx => ?_; clear hK K; try clear kk
   refine zn ?_; refine nmx ?_
   obtain hR := Option.some.inj hh
   subst hR
   exact zz
  ·rw [if_neg h2] at hh
   replace h2 := Bool.eq_false_iff.mpr h2
   obtain ⟨Qn, h3, hh⟩ := ze hh
   refine zb fun K kk hK => ?_
   simp only [go_sem, h1, h2, of_decide_eq_false h2]
   (repeat refine sd ?_)
   refine zg (xM _ _ h3) (by (try simp only [go_sem, h1, h2, of_decide_eq_false h2]) <;> exact wkl) (by rfl) (by rfl) ?_
   simp only [go_sem, h1, h2, of_decide_eq_false h2]
   (repeat refine sd ?_)
   refine hK _ _ fun nx => ?_; clear hK K; try clear kk
   by_cases h4 : (decide (kY > Qn)) = true
   ·rw [if_pos h4] at hh
    refine zk (by first | exact congrArg PV.bool h4 | rfl) ?_
    refine zb fun K kk hK => ?_
    simp only [go_sem]
    refine hK _ _ fun nx => ?_; clear hK K; try clear kk
    refine zn ?_; refine nmx ?_
    obtain hR := Option.some.inj hh
    subst hR
    exact zz
   ·rw [if_neg h4] at hh
    replace h4 := Bool.eq_false_iff.mpr h4
    refine zh (by first | exact congrArg PV.bool h4 | rfl) ?_
    refine zy ?_; refine nmx ?_
    refine zb fun K kk hK => ?_
    simp only [go_sem]
    refine hK _ _ fun nx => ?_; clear hK K; try clear kk
    refine zm ?_
    refine ajl ?_; refine nmx ?_
    obtain ⟨e0, f0, hh⟩ := ze hh
    refine qz (w9 (fun s => False))
     (fun i s => False)
     (fun s => ∃ Yi, Yi = e0 ∧ zZ Tryz.prog [.cell 4 153, .tmp 5] (.tup [.agg [.list 1 (Yi.1.Path.map (PV.int .i64)), .int .i64 Yi.1.Index, .int .i64 Yi.1.Offset], .int .i64 Yi.2]) [] .ret s) ?_ ?_ ?_ ?_
    ·refine zC ?_
     refine qi fun I hI => ?_
     obtain ⟨k, f0⟩ := jL f0
     have key : ∀ (k : Nat) (adT : Int) (Qq : za) (Jn : (List Int)), ku k adT Qq Jn = some e0 → ∀ (nx : Nat) (g2 : Nat) (g4 : Nat) (g6 : Nat) (g342 : Nat), I ⟨[(1, .int .i64 adT), (2, .box 2 g2 0), (4, .box 4 g4 0), (6, .box 6 g6 0)], [(2, g2, .var 28 [.str Qq.Kind, .str Qq.Text, .list 1 (Qq.Marks.map PV.str), .list 2 (Qq.zq.map zf.pv), .list 5 (Qq.Kids.map za.pv)]), (4, g4, .var 153 [.list 1 ([].map (PV.int .i64)), .int .i64 (0 : Int), .int .i64 (0 : Int)]), (6, g6, .var 153 [.row 342 g342 Jn.length, .int .i64 (0 : Int), .int .i64 (0 : Int)]), (342, g342, .row false 1 (Jn.map (PV.int .i64)))], nx⟩ := by
      intro k
      induction k with
      | zero => intro adT Qq Jn hh; rw [ku] at hh; cases hh
      | succ k ih =>
       intro adT Qq Jn hh nx g2 g4 g6 g342
       rw [ku] at hh
       refine hI _ ?_
       refine zC ?_
       refine zm ?_
       refine zb fun K kk hK => ?_
       simp only [go_sem]
       refine hK _ _ fun nx => ?_; clear hK K; try clear kk
       obtain ⟨e2, f2, hh⟩ := ze hh
       obtain ⟨hlen2, f2⟩ := zR f2
       refine qz (w9 (fun s => .inr (.inr ()) = e2 ∧ ∃ (asT : Int) (ami : Int) (awj : Bool) (nx : Nat) (g2 : Nat) (g4 : Nat) (g6 : Nat) (g342 : Nat), s = ⟨[(1, .int .i64 asT), (2, .box 2 g2 0), (4, .box 4 g4 0), (6, .box 6 g6 0), (26, .list 5 (Qq.Kids.map za.pv)), (27, .int .i64 (Qq.Kids.length : Int)), (28, .int .i64 ami), (29, .bool awj)], [(2, g2, .var 28 [.str Qq.Kind, .str Qq.Text, .list 1 (Qq.Marks.map PV.str), .list 2 (Qq.zq.map zf.pv), .list 5 (Qq.Kids.map za.pv)]), (4, g4, .var 153 [.list 1 ([].map (PV.int .i64)), .int .i64 (0 : Int), .int .i64 (0 : Int)]), (6, g6, .var 153 [.row 342 g342 Jn.length, .int .i64 (0 : Int), .int .i64 (0 : Int)]), (342, g342, .row false 1 (Jn.map (PV.int .i64)))], nx⟩))
        (fun i s => (i = 1 ∧ ∃ ahB, ∃ ajR, ∃ XY, .inr (.inl (ahB, ajR, XY)) = e2 ∧ ∃ (nx : Nat) (g2 : Nat) (g4 : Nat) (g6 : Nat) (g342 : Nat), s = ⟨[(1, .int .i64 ahB), (2, .box 2 g2 0), (4, .box 4 g4 0), (6, .box 6 g6 0)], [(2, g2, .var 28 [.str ajR.Kind, .str ajR.Text, .list 1 (ajR.Marks.map PV.str), .list 2 (ajR.zq.map zf.pv), .list 5 (ajR.Kids.map za.pv)]), (4, g4, .var 153 [.list 1 ([].map (PV.int .i64)), .int .i64 (0 : Int), .int .i64 (0 : Int)]), (6, g6, .var 153 [.row 342 g342 XY.length, .int .i64 (0 : Int), .int .i64 (0 : Int)]), (342, g342, .row false 1 (XY.map (PV.int .i64)))], nx⟩))
        (fun s => ∃ Yb, .inl Yb = e2 ∧ zZ Tryz.prog [.cell 4 153, .tmp 5] (.tup [.agg [.list 1 (Yb.1.Path.map (PV.int .i64)), .int .i64 Yb.1.Index, .int .i64 Yb.1.Offset], .int .i64 Yb.2]) [] .ret s) ?_ ?_ ?_ ?_
       ·refine zC ?_
        refine qi fun I hI => ?_
        have key : ∀ (suf pre : List za) (abW : Int) (QT : Int), Qq.Kids = pre ++ suf → abW = (pre.length : Int) → qd Jn suf abW QT = some e2 → ∀ (nx : Nat) (g2 : Nat) (g4 : Nat) (g6 : Nat) (g342 : Nat), I ⟨[(1, .int .i64 QT), (2, .box 2 g2 0), (4, .box 4 g4 0), (6, .box 6 g6 0), (26, .list 5 (Qq.Kids.map za.pv)), (27, .int .i64 (Qq.Kids.length : Int)), (28, .int .i64 abW)], [(2, g2, .var 28 [.str Qq.Kind, .str Qq.Text, .list 1 (Qq.Marks.map PV.str), .list 2 (Qq.zq.map zf.pv), .list 5 (Qq.Kids.map za.pv)]), (4, g4, .var 153 [.list 1 ([].map (PV.int .i64)), .int .i64 (0 : Int), .int .i64 (0 : Int)]), (6, g6, .var 153 [.row 342 g342 Jn.length, .int .i64 (0 : Int), .int .i64 (0 : Int)]), (342, g342, .row false 1 (Jn.map (PV.int .i64)))], nx⟩ := by
         intro suf
         induction suf with
         | nil =>
          intro pre abW QT hsplit hidx hh nx g2 g4 g6 g342
          rw [qd] at hh
          refine hI _ ?_
          have h39 := walk_nil hsplit hidx
          refine zb fun K kk hK => ?_
          simp only [go_sem]
          refine hK _ _ fun nx => ?_; clear hK K; try clear kk
          refine zm ?_
          refine zh (by first | exact congrArg PV.bool h39 | rfl) ?_
          refine zV ?_; refine nmx ?_
          refine wU ?_
          refine zH ?_
          refine ⟨(Option.some.inj hh), ?_⟩
          first | exact ⟨_, _, _, _, _, _, _, _, rfl⟩ | (simp only [pvE, lsE, zo]; exact ⟨_, _, _, _, _, _, _, _, rfl⟩) | (simp only [pvE, lsE, zo, h1, h2, h39, h4]; exact ⟨_, _, _, _, _, _, _, _, rfl⟩)
         | cons aqe suf ih =>
          intro pre abW QT hsplit hidx hh nx g2 g4 g6 g342
          rw [qd] at hh
          refine hI _ ?_
          obtain ⟨hl2a, hl2b, hl2d, hl2w, h39⟩ := qV (f := za.pv) hsplit hidx hlen2
          refine zb fun K kk hK => ?_
          simp only [go_sem]
          refine hK _ _ fun nx => ?_; clear hK K; try clear kk
          refine zm ?_
          refine zk (by first | exact congrArg PV.bool h39 | rfl) ?_
          refine zy ?_; refine nmx ?_
          refine zm ?_
          refine zC ?_
          refine zb fun K kk hK => ?_
          simp only [go_sem, hl2a, hl2b, hl2d, hl2w]
          refine hK _ _ fun nx => ?_; clear hK K; try clear kk
          obtain ⟨afK, h40, hh⟩ := ze hh
          refine zb fun K kk hK => ?_
          simp only [go_sem, hl2a, hl2b, hl2d, hl2w]
          refine zg (ZT _ _ h40) (by (try simp only [go_sem, hl2a, hl2b, hl2d, hl2w]) <;> exact wkl) (by rfl) (by rfl) ?_
          simp only [go_sem, hl2a, hl2b, hl2d, hl2w]
          refine hK _ _ fun nx => ?_; clear hK K; try clear kk
          refine zC ?_
          refine zb fun K kk hK => ?_
          simp only [go_sem, hl2a, hl2b, hl2d, hl2w]
          refine hK _ _ fun nx => ?_; clear hK K; try clear kk
          by_cases h41 : (decide (QT ≥ afK)) = true
          ·rw [if_pos h41] at hh
           refine zk (by first | exact congrArg PV.bool h41 | rfl) ?_
           refine zt fun K kk hK => ?_
           simp only [go_sem, hl2a, hl2b, hl2d, hl2w]
           refine hK _ _ fun nx => ?_; clear hK K; try clear kk
           refine nmx ?_
           refine zt fun K kk hK => ?_
           simp only [go_sem, hl2a, hl2b, hl2d, hl2w]
           refine hK _ _ fun nx => ?_; clear hK K; try clear kk
           refine nmx ?_
           have ih' := ih (pre ++ [aqe]) (abW + 1) _ (by rw [hsplit]; simp) (by simp [hidx]) hh nx
           refine zH ?_
           first | exact ih' _ _ _ _ | (simp only [pvE, lsE, zo] at ih' ⊢; exact ih' _ _ _ _) | (simp only [pvE, lsE, zo, h1, h2, h39, h4, h41] at ih' ⊢; exact ih' _ _ _ _)
          ·rw [if_neg h41] at hh
           replace h41 := Bool.eq_false_iff.mpr h41
           refine zh (by first | exact congrArg PV.bool h41 | rfl) ?_
           refine zb fun K kk hK => ?_
           simp only [go_sem, hl2a, hl2b, hl2d, hl2w]
           refine hK _ _ fun nx => ?_; clear hK K; try clear kk
           by_cases h42 : (aqe.Kind == ([116, 101, 120, 116] : Str)) = true
           ·rw [if_pos h42] at hh
            refine zk (by first | exact congrArg PV.bool h42 | rfl) ?_
            refine zb fun K kk hK => ?_
            simp only [go_sem, hl2a, hl2b, hl2d, hl2w]
            refine hK _ _ fun nx => ?_; clear hK K; try clear kk
            refine zb fun K kk hK => ?_
            simp only [go_sem, hl2a, hl2b, hl2d, hl2w]
            refine hK _ _ fun nx => ?_; clear hK K; try clear kk
            refine zn ?_; refine nmx ?_
            refine xI ⟨_, (Option.some.inj hh), ?_⟩
            exact zz
           ·rw [if_neg h42] at hh
            replace h42 := Bool.eq_false_iff.mpr h42
            refine zh (by first | exact congrArg PV.bool h42 | rfl) ?_
            refine zb fun K kk hK => ?_
            simp only [go_sem, hl2a, hl2b, hl2d, hl2w]
            refine hK _ _ fun nx => ?_; clear hK K; try clear kk
            by_cases h43 : (QT == (0 : Int)) = true
            ·rw [if_pos h43] at hh
             refine zk (by first | exact congrArg PV.bool h43 | rfl) ?_
             refine zb fun K kk hK => ?_
             simp only [go_sem, hl2a, hl2b, hl2d, hl2w]
             refine hK _ _ fun nx => ?_; clear hK K; try clear kk
             refine zb fun K kk hK => ?_
             simp only [go_sem, hl2a, hl2b, hl2d, hl2w]
             refine hK _ _ fun nx => ?_; clear hK K; try clear kk
             refine zn ?_; refine nmx ?_
             refine xI ⟨_, (Option.some.inj hh), ?_⟩
             exact zz
            ·rw [if_neg h43] at hh
             replace h43 := Bool.eq_false_iff.mpr h43
             refine zh (by first | exact congrArg PV.bool h43 | rfl) ?_
             obtain ⟨asc, h44, hh⟩ := ze hh
             obtain ⟨h44a, h44c⟩ := zX h44
             have h44d := qF (f := (PV.int .i64)) h44c
             have h44e := qE h44c
             try simp only [List.length_cons, List.length_nil, Nat.zero_add, Nat.reduceAdd] at h44a h44e
             try simp only [h44e] at h44a
             try simp only [List.map_cons, List.map_nil, List.nil_append, List.append_nil, List.cons_append, List.singleton_append, zo, pvE] at h44d
             refine zb fun K kk hK => ?_
             simp only [go_sem, h44a, h44d, h44e, hl2a, hl2b, hl2d, hl2w]
             (repeat refine sd ?_)
             refine hK _ _ fun nx => ?_; clear hK K; try clear kk
             refine zb fun K kk hK => ?_
             simp only [go_sem, hl2a, hl2b, hl2d, hl2w]
             refine hK _ _ fun nx => ?_; clear hK K; try clear kk
             refine zV ?_; refine nmx ?_
             refine al1 ⟨rfl, _, _, _, (Option.some.inj hh), ?_⟩
             first | exact ⟨_, _, _, _, _, rfl⟩ | (simp only [pvE, lsE, zo, h44e]; exact ⟨_, _, _, _, _, rfl⟩) | (simp only [pvE, lsE, zo, h44e, h1, h2, h39, h4, h41, h42, h43]; exact ⟨_, _, _, _, _, rfl⟩)
        exact key Qq.Kids [] _ _ rfl rfl f2 _ _ _ _ _
       ·rintro s ⟨t, hless, rfl, asT, ami, awj, nx, g2, g4, g6, g342, rfl⟩
        try dsimp only at hh
        refine nmy ?_
        first | (refine qW hless ?_; try refine wY ?_) | refine qC hless ?_ | refine qD hless ?_
        refine zb fun K kk hK => ?_
        simp only [go_sem]
        refine hK _ _ fun nx => ?_; clear hK K; try clear kk
        refine zb fun K kk hK => ?_
        simp only [go_sem]
        refine hK _ _ fun nx => ?_; clear hK K; try clear kk
        refine zn ?_; refine nmx ?_
        refine xI ⟨_, (Option.some.inj hh), ?_⟩
        exact zz
       ·intro i s h
        obtain ⟨rfl, ahB, ajR, XY, rfl, nx, g2, g4, g6, g342, rfl⟩ := h
        try dsimp only at hh
        refine nmx ?_
        have ih' := ih _ _ _ hh nx
        refine zH ?_
        first | exact ih' _ _ _ _ | (simp only [pvE, lsE, zo] at ih' ⊢; exact ih' _ _ _ _) | (simp only [pvE, lsE, zo, h1, h2, h4] at ih' ⊢; exact ih' _ _ _ _)
       ·rintro s ⟨Yb, rfl, hb⟩
        try dsimp only at hh
        refine nmx ?_
        exact xI ⟨_, (Option.some.inj hh), hb⟩
     exact key _ _ _ _ f0 _ _ _ _ _
    ·rintro s ⟨_, _, h⟩; exact h.elim
    ·intro i s h; exact h.elim
    ·rintro s ⟨Yi, rfl, hb⟩
     try dsimp only at hh
     obtain hR := Option.some.inj hh
     subst hR
     refine nmx ?_
     exact hb
theorem aap (QV : (List Int)) (WS : (List Int)) (R : Bool) (hh : slices_Equal_int QV WS = some R) : PC Tryz.prog 111 [.list 1 (QV.map (PV.int .i64)), .list 1 (WS.map (PV.int .i64))] (.bool R) := by
 rw [slices_Equal_int] at hh
 refine Xv rfl ?_
 refine zb fun K kk hK => ?_
 simp only [go_sem]
 refine hK _ _ fun nx => ?_; clear hK K; try clear kk
 refine zm ?_
 refine zb fun K kk hK => ?_
 simp only [go_sem]
 refine hK _ _ fun nx => ?_; clear hK K; try clear kk
 by_cases h1 : ((QV.length : Int) != (WS.length : Int)) = true
 ·rw [if_pos h1] at hh
  refine zk (by first | exact congrArg PV.bool h1 | rfl) ?_
  refine zb fun K kk hK => ?_
  simp only [go_sem]
  refine hK _ _ fun nx => ?_; clear hK K; try clear kk
  refine zn ?_; refine nmx ?_
  obtain hR := Option.some.inj hh
  subst hR
  exact zz
 ·rw [if_neg h1] at hh
  replace h1 := Bool.eq_false_iff.mpr h1
  refine zh (by first | exact congrArg PV.bool h1 | rfl) ?_
  refine zy ?_; refine nmx ?_
  refine zm ?_
  refine zb fun K kk hK => ?_
  simp only [go_sem]
  refine hK _ _ fun nx => ?_; clear hK K; try clear kk
  obtain ⟨e0, f0, hh⟩ := ze hh
  obtain ⟨hlen0, f0⟩ := zR f0
  refine qz (w9 (fun s => .inr () = e0 ∧ ∃ (KA : Int) (KU : Bool) (nx : Nat), s = ⟨[(0, .list 1 (QV.map (PV.int .i64))), (1, .list 1 (WS.map (PV.int .i64))), (12, .int .i64 (QV.length : Int)), (13, .int .i64 KA), (14, .bool KU)], [], nx⟩))
   (fun i s => False)
   (fun s => ∃ kT, .inl kT = e0 ∧ zZ Tryz.prog [.tmp 4] (.bool kT) [] .ret s) ?_ ?_ ?_ ?_
  ·refine zC ?_
   refine qi fun I hI => ?_
   have key : ∀ (suf pre : List Int) (v_5 : Int), QV = pre ++ suf → v_5 = (pre.length : Int) → wO WS suf v_5 = some e0 → ∀ (nx : Nat), I ⟨[(0, .list 1 (QV.map (PV.int .i64))), (1, .list 1 (WS.map (PV.int .i64))), (12, .int .i64 (QV.length : Int)), (13, .int .i64 v_5)], [], nx⟩ := by
    intro suf
    induction suf with
    | nil =>
     intro pre v_5 hsplit hidx hh nx
     rw [wO] at hh
     refine hI _ ?_
     have h10 := walk_nil hsplit hidx
     refine zb fun K kk hK => ?_
     simp only [go_sem]
     refine hK _ _ fun nx => ?_; clear hK K; try clear kk
     refine zm ?_
     refine zh (by first | exact congrArg PV.bool h10 | rfl) ?_
     refine zV ?_; refine nmx ?_
     refine wU ?_
     refine zH ?_
     refine ⟨(Option.some.inj hh), ?_⟩
     first | exact ⟨_, _, _, rfl⟩ | (simp only [pvE, lsE, zo]; exact ⟨_, _, _, rfl⟩) | (simp only [pvE, lsE, zo, h1, h10]; exact ⟨_, _, _, rfl⟩)
    | cons y_8 suf ih =>
     intro pre v_5 hsplit hidx hh nx
     rw [wO] at hh
     refine hI _ ?_
     obtain ⟨hl0a, hl0b, hl0d, hl0w, h10⟩ := qV (f := (PV.int .i64)) hsplit hidx hlen0
     refine zb fun K kk hK => ?_
     simp only [go_sem]
     refine hK _ _ fun nx => ?_; clear hK K; try clear kk
     refine zm ?_
     refine zk (by first | exact congrArg PV.bool h10 | rfl) ?_
     refine zy ?_; refine nmx ?_
     refine zm ?_
     refine zC ?_
     refine zb fun K kk hK => ?_
     simp only [go_sem, hl0a, hl0b, hl0d, hl0w]
     refine hK _ _ fun nx => ?_; clear hK K; try clear kk
     obtain ⟨x_9, h11, hh⟩ := ze hh
     obtain ⟨h11a, h11b, h11c⟩ := rd_some h11
     have h11d := kR (f := (PV.int .i64)) h11c
     have h11f := wL (f := (PV.int .i64)) h11c
     try simp only [Int.toNat_natCast, Int.reduceToNat] at h11d h11f
     refine zb fun K kk hK => ?_
     simp only [go_sem, h11a, h11b, h11d, h11f.1, h11f.2, hl0a, hl0b, hl0d, hl0w]
     (repeat refine sd ?_)
     refine hK _ _ fun nx => ?_; clear hK K; try clear kk
     by_cases h12 : (y_8 != x_9) = true
     ·rw [if_pos h12] at hh
      refine zk (by first | exact congrArg PV.bool h12 | rfl) ?_
      refine zb fun K kk hK => ?_
      simp only [go_sem, hl0a, hl0b, hl0d, hl0w]
      refine hK _ _ fun nx => ?_; clear hK K; try clear kk
      refine zn ?_; refine nmx ?_
      refine xI ⟨_, (Option.some.inj hh), ?_⟩
      exact zz
     ·rw [if_neg h12] at hh
      replace h12 := Bool.eq_false_iff.mpr h12
      refine zh (by first | exact congrArg PV.bool h12 | rfl) ?_
      refine zy ?_; refine nmx ?_
      refine zt fun K kk hK => ?_
      simp only [go_sem, hl0a, hl0b, hl0d, hl0w]
      refine hK _ _ fun nx => ?_; clear hK K; try clear kk
      refine nmx ?_
      have ih' := ih (pre ++ [y_8]) (v_5 + 1) (by rw [hsplit]; simp) (by simp [hidx]) hh nx
      refine zH ?_
      first | exact ih' | (simp only [pvE, lsE, zo] at ih' ⊢; exact ih') | (simp only [pvE, lsE, zo, h1, h10, h12] at ih' ⊢; exact ih')
   exact key QV [] _ rfl rfl f0 _
  ·rintro s ⟨t, hless, rfl, KA, KU, nx, rfl⟩
   try dsimp only at hh
   refine nmy ?_
   first | (refine qW hless ?_; try refine wY ?_) | refine qC hless ?_ | refine qD hless ?_
   refine zb fun K kk hK => ?_
   simp only [go_sem]
   refine hK _ _ fun nx => ?_; clear hK K; try clear kk
   refine zn ?_; refine nmx ?_
   obtain hR := Option.some.inj hh
   subst hR
   exact zz
  ·intro i s h; exact h.elim
  ·rintro s ⟨kT, rfl, hb⟩
   try dsimp only at hh
   obtain hR := Option.some.inj hh
   subst hR
   refine nmx ?_
   exact hb
theorem xZ (n_1 : za) (wB : (List Int)) (R : (za × Int)) (hh : kZ n_1 wB = some R) : PC Tryz.prog 75 [.agg [.str n_1.Kind, .str n_1.Text, .list 1 (n_1.Marks.map PV.str), .list 2 (n_1.zq.map zf.pv), .list 5 (n_1.Kids.map za.pv)], .list 1 (wB.map (PV.int .i64))] (.tup [.agg [.str R.1.Kind, .str R.1.Text, .list 1 (R.1.Marks.map PV.str), .list 2 (R.1.zq.map zf.pv), .list 5 (R.1.Kids.map za.pv)], .int .i64 R.2]) := by
 rw [kZ] at hh
 refine acg rfl ?_
 refine zb fun K kk hK => ?_
 simp only [go_sem]
 refine hK _ _ fun nx => ?_; clear hK K; try clear kk
 refine zm ?_
 refine zb fun K kk hK => ?_
 simp only [go_sem]
 refine hK _ _ fun nx => ?_; clear hK K; try clear kk
 obtain ⟨e0, f0, hh⟩ := ze hh
 obtain ⟨hlen0, f0⟩ := zR f0
 refine qz (w9 (fun s => ∃ ahV, .inr ahV = e0 ∧ ∃ (KU : Int) (XM : Bool) (nx : Nat) (g2 : Nat) (g4 : Nat), s = ⟨[(2, .box 2 g2 0), (4, .box 4 g4 0), (8, .list 1 (wB.map (PV.int .i64))), (9, .int .i64 (wB.length : Int)), (10, .int .i64 KU), (11, .bool XM)], [(2, g2, .var 28 [.str ahV.Kind, .str ahV.Text, .list 1 (ahV.Marks.map PV.str), .list 2 (ahV.zq.map zf.pv), .list 5 (ahV.Kids.map za.pv)]), (4, g4, .var 28 [.str ([] : Str), .str ([] : Str), .list 1 ([].map PV.str), .list 2 ([].map zf.pv), .list 5 ([].map za.pv)])], nx⟩))
  (fun i s => False)
  (fun s => ∃ V7, .inl V7 = e0 ∧ zZ Tryz.prog [.cell 4 28, .tmp 5] (.tup [.agg [.str V7.1.Kind, .str V7.1.Text, .list 1 (V7.1.Marks.map PV.str), .list 2 (V7.1.zq.map zf.pv), .list 5 (V7.1.Kids.map za.pv)], .int .i64 V7.2]) [] .ret s) ?_ ?_ ?_ ?_
 ·refine zC ?_
  refine qi fun I hI => ?_
  have key : ∀ (suf pre : List Int) (v_6 : Int) (n_5 : za), wB = pre ++ suf → v_6 = (pre.length : Int) → qK suf v_6 n_5 = some e0 → ∀ (nx : Nat) (g2 : Nat) (g4 : Nat), I ⟨[(2, .box 2 g2 0), (4, .box 4 g4 0), (8, .list 1 (wB.map (PV.int .i64))), (9, .int .i64 (wB.length : Int)), (10, .int .i64 v_6)], [(2, g2, .var 28 [.str n_5.Kind, .str n_5.Text, .list 1 (n_5.Marks.map PV.str), .list 2 (n_5.zq.map zf.pv), .list 5 (n_5.Kids.map za.pv)]), (4, g4, .var 28 [.str ([] : Str), .str ([] : Str), .list 1 ([].map PV.str), .list 2 ([].map zf.pv), .list 5 ([].map za.pv)])], nx⟩ := by
   intro suf
   induction suf with
   | nil =>
    intro pre v_6 n_5 hsplit hidx hh nx g2 g4
    rw [qK] at hh
    refine hI _ ?_
    have h13 := walk_nil hsplit hidx
    refine zb fun K kk hK => ?_
    simp only [go_sem]
    refine hK _ _ fun nx => ?_; clear hK K; try clear kk
    refine zm ?_
    refine zh (by first | exact congrArg PV.bool h13 | rfl) ?_
    refine zV ?_; refine nmx ?_
    refine wU ?_
    refine zH ?_
    refine ⟨_, (Option.some.inj hh), ?_⟩
    first | exact ⟨_, _, _, _, _, rfl⟩ | (simp only [pvE, lsE, zo]; exact ⟨_, _, _, _, _, rfl⟩) | (simp only [pvE, lsE, zo, h13]; exact ⟨_, _, _, _, _, rfl⟩)
   | cons y_9 suf ih =>
    intro pre v_6 n_5 hsplit hidx hh nx g2 g4
    rw [qK] at hh
    refine hI _ ?_
    obtain ⟨hl0a, hl0b, hl0d, hl0w, h13⟩ := qV (f := (PV.int .i64)) hsplit hidx hlen0
    refine zb fun K kk hK => ?_
    simp only [go_sem]
    refine hK _ _ fun nx => ?_; clear hK K; try clear kk
    refine zm ?_
    refine zk (by first | exact congrArg PV.bool h13 | rfl) ?_
    refine zy ?_; refine nmx ?_
    refine zm ?_
    refine zC ?_
    refine zb fun K kk hK => ?_
    simp only [go_sem, hl0a, hl0b, hl0d, hl0w]
    refine hK _ _ fun nx => ?_; clear hK K; try clear kk
    refine zm ?_
    by_cases h14 : (decide (y_9 < (0 : Int))) = true
    ·rw [if_pos h14] at hh
     refine zb fun K kk hK => ?_
     simp only [go_sem, h14, of_decide_eq_true h14, hl0a, hl0b, hl0d, hl0w]
     (repeat refine sd ?_)
     refine hK _ _ fun nx => ?_; clear hK K; try clear kk
     refine zk rfl ?_
     refine zb fun K kk hK => ?_
     simp only [go_sem, hl0a, hl0b, hl0d, hl0w]
     refine hK _ _ fun nx => ?_; clear hK K; try clear kk
     refine zn ?_; refine nmx ?_
     refine xI ⟨_, (Option.some.inj hh), ?_⟩
     exact zz
    ·rw [if_neg h14] at hh
     replace h14 := Bool.eq_false_iff.mpr h14
     by_cases h15 : (decide (y_9 ≥ (n_5.Kids.length : Int))) = true
     ·rw [if_pos h15] at hh
      refine zb fun K kk hK => ?_
      simp only [go_sem, h14, of_decide_eq_false h14, h15, of_decide_eq_true h15, hl0a, hl0b, hl0d, hl0w]
      (repeat refine sd ?_)
      refine hK _ _ fun nx => ?_; clear hK K; try clear kk
      refine zk rfl ?_
      refine zb fun K kk hK => ?_
      simp only [go_sem, hl0a, hl0b, hl0d, hl0w]
      refine hK _ _ fun nx => ?_; clear hK K; try clear kk
      refine zn ?_; refine nmx ?_
      refine xI ⟨_, (Option.some.inj hh), ?_⟩
      exact zz
     ·rw [if_neg h15] at hh
      replace h15 := Bool.eq_false_iff.mpr h15
      refine zb fun K kk hK => ?_
      simp only [go_sem, h14, of_decide_eq_false h14, h15, of_decide_eq_false h15, hl0a, hl0b, hl0d, hl0w]
      (repeat refine sd ?_)
      refine hK _ _ fun nx => ?_; clear hK K; try clear kk
      by_cases h16 : (n_5.Kind == ([116, 101, 120, 116] : Str)) = true
      ·rw [if_pos h16] at hh
       refine zk (by first | exact congrArg PV.bool h16 | rfl) ?_
       refine zb fun K kk hK => ?_
       simp only [go_sem, hl0a, hl0b, hl0d, hl0w]
       refine hK _ _ fun nx => ?_; clear hK K; try clear kk
       refine zn ?_; refine nmx ?_
       refine xI ⟨_, (Option.some.inj hh), ?_⟩
       exact zz
      ·rw [if_neg h16] at hh
       replace h16 := Bool.eq_false_iff.mpr h16
       refine zh (by first | exact congrArg PV.bool h16 | rfl) ?_
       refine zy ?_; refine nmx ?_
       obtain ⟨aif, h17, hh⟩ := ze hh
       obtain ⟨h17a, h17b, h17c⟩ := rd_some h17
       have h17d := kR (f := za.pv) h17c
       have h17f := wL (f := za.pv) h17c
       try simp only [Int.toNat_natCast, Int.reduceToNat] at h17d h17f
       refine zt fun K kk hK => ?_
       simp only [go_sem, h17a, h17b, h17d, h17f.1, h17f.2, hl0a, hl0b, hl0d, hl0w]
       (repeat refine sd ?_)
       refine hK _ _ fun nx => ?_; clear hK K; try clear kk
       refine nmx ?_
       refine zt fun K kk hK => ?_
       simp only [go_sem, hl0a, hl0b, hl0d, hl0w]
       refine hK _ _ fun nx => ?_; clear hK K; try clear kk
       refine nmx ?_
       have ih' := ih (pre ++ [y_9]) (v_6 + 1) _ (by rw [hsplit]; simp) (by simp [hidx]) hh nx
       refine zH ?_
       first | exact ih' _ _ | (simp only [pvE, lsE, zo] at ih' ⊢; exact ih' _ _) | (simp only [pvE, lsE, zo, h13, h14, h15, h16] at ih' ⊢; exact ih' _ _)
  exact key wB [] _ _ rfl rfl f0 _ _ _
 ·rintro s ⟨t, hless, ahV, rfl, KU, XM, nx, g2, g4, rfl⟩
  try dsimp only at hh
  refine nmy ?_
  first | (refine qW hless ?_; try refine wY ?_) | refine qC hless ?_ | refine qD hless ?_
  refine zm ?_
  refine zb fun K kk hK => ?_
  simp only [go_sem]
  refine hK _ _ fun nx => ?_; clear hK K; try clear kk
  by_cases h18 : (ahV.Kind == ([116, 101, 120, 116] : Str)) = true
  ·rw [if_pos h18] at hh
   refine zk (by first | exact congrArg PV.bool h18 | rfl) ?_
   refine zb fun K kk hK => ?_
   simp only [go_sem]
   refine hK _ _ fun nx => ?_; clear hK K; try clear kk
   refine zn ?_; refine nmx ?_
   obtain hR := Option.some.inj hh
   subst hR
   exact zz
  ·rw [if_neg h18] at hh
   replace h18 := Bool.eq_false_iff.mpr h18
   refine zh (by first | exact congrArg PV.bool h18 | rfl) ?_
   refine zy ?_; refine nmx ?_
   refine zb fun K kk hK => ?_
   simp only [go_sem]
   refine hK _ _ fun nx => ?_; clear hK K; try clear kk
   refine zn ?_; refine nmx ?_
   obtain hR := Option.some.inj hh
   subst hR
   exact zz
 ·intro i s h; exact h.elim
 ·rintro s ⟨V7, rfl, hb⟩
  try dsimp only at hh
  obtain hR := Option.some.inj hh
  subst hR
  refine nmx ?_
  exact hb
theorem ag5 (n_1 : za) (wB : (List Int)) (R : (Int × Int)) (hh : WK n_1 wB = some R) : PC Tryz.prog 112 [.agg [.str n_1.Kind, .str n_1.Text, .list 1 (n_1.Marks.map PV.str), .list 2 (n_1.zq.map zf.pv), .list 5 (n_1.Kids.map za.pv)], .list 1 (wB.map (PV.int .i64))] (.tup [.int .i64 R.1, .int .i64 R.2]) := by
 rw [WK] at hh
 refine acX rfl ?_
 refine zb fun K kk hK => ?_
 simp only [go_sem]
 refine hK _ _ fun nx => ?_; clear hK K; try clear kk
 refine zm ?_
 obtain ⟨⟨r_3, r_4⟩, h1, hh⟩ := ze hh
 dsimp only at hh
 refine zb fun K kk hK => ?_
 simp only [go_sem]
 refine zg (xZ _ _ _ h1) (by (try simp only [go_sem]) <;> exact wkl) (by rfl) (by rfl) ?_
 simp only [go_sem]
 refine hK _ _ fun nx => ?_; clear hK K; try clear kk
 refine zb fun K kk hK => ?_
 simp only [go_sem]
 refine hK _ _ fun nx => ?_; clear hK K; try clear kk
 by_cases h2 : (r_4 != (0 : Int)) = true
 ·rw [if_pos h2] at hh
  refine zk (by first | exact congrArg PV.bool h2 | rfl) ?_
  refine zb fun K kk hK => ?_
  simp only [go_sem]
  refine hK _ _ fun nx => ?_; clear hK K; try clear kk
  refine zn ?_; refine nmx ?_
  obtain hR := Option.some.inj hh
  subst hR
  exact zz
 ·rw [if_neg h2] at hh
  replace h2 := Bool.eq_false_iff.mpr h2
  refine zh (by first | exact congrArg PV.bool h2 | rfl) ?_
  refine zy ?_; refine nmx ?_
  refine zb fun K kk hK => ?_
  simp only [go_sem]
  refine hK _ _ fun nx => ?_; clear hK K; try clear kk
  refine zm ?_
  refine zb fun K kk hK => ?_
  simp only [go_sem]
  refine hK _ _ fun nx => ?_; clear hK K; try clear kk
  obtain ⟨e0, f0, hh⟩ := ze hh
  obtain ⟨hlen0, f0⟩ := zR f0
  refine qz (w9 (fun s => ∃ akX, akX = e0 ∧ ∃ (avY : Int) (avV : Bool) (aqa : za) (nx : Nat) (g2 : Nat), s = ⟨[(2, .box 2 g2 0), (8, .int .i64 akX), (20, .list 1 (wB.map (PV.int .i64))), (21, .int .i64 (wB.length : Int)), (22, .int .i64 avY), (23, .bool avV)], [(2, g2, .var 28 [.str aqa.Kind, .str aqa.Text, .list 1 (aqa.Marks.map PV.str), .list 2 (aqa.zq.map zf.pv), .list 5 (aqa.Kids.map za.pv)])], nx⟩))
   (fun i s => False)
   (fun s => False) ?_ ?_ ?_ ?_
  ·refine zC ?_
   refine qi fun I hI => ?_
   have key : ∀ (suf pre : List Int) (KA : Int) (afa : Int) (n_9 : za), wB = pre ++ suf → KA = (pre.length : Int) → jv suf KA afa n_9 = some e0 → ∀ (nx : Nat) (g2 : Nat), I ⟨[(2, .box 2 g2 0), (8, .int .i64 afa), (20, .list 1 (wB.map (PV.int .i64))), (21, .int .i64 (wB.length : Int)), (22, .int .i64 KA)], [(2, g2, .var 28 [.str n_9.Kind, .str n_9.Text, .list 1 (n_9.Marks.map PV.str), .list 2 (n_9.zq.map zf.pv), .list 5 (n_9.Kids.map za.pv)])], nx⟩ := by
    intro suf
    induction suf with
    | nil =>
     intro pre KA afa n_9 hsplit hidx hh nx g2
     rw [jv] at hh
     refine hI _ ?_
     have h13 := walk_nil hsplit hidx
     refine zb fun K kk hK => ?_
     simp only [go_sem]
     refine hK _ _ fun nx => ?_; clear hK K; try clear kk
     refine zm ?_
     refine zh (by first | exact congrArg PV.bool h13 | rfl) ?_
     refine zV ?_; refine nmx ?_
     refine wU ?_
     refine zH ?_
     refine ⟨_, (Option.some.inj hh), ?_⟩
     first | exact ⟨_, _, _, _, _, rfl⟩ | (simp only [pvE, lsE, zo]; exact ⟨_, _, _, _, _, rfl⟩) | (simp only [pvE, lsE, zo, h13, h2]; exact ⟨_, _, _, _, _, rfl⟩)
    | cons atN suf ih =>
     intro pre KA afa n_9 hsplit hidx hh nx g2
     rw [jv] at hh
     refine hI _ ?_
     obtain ⟨hl0a, hl0b, hl0d, hl0w, h13⟩ := qV (f := (PV.int .i64)) hsplit hidx hlen0
     refine zb fun K kk hK => ?_
     simp only [go_sem]
     refine hK _ _ fun nx => ?_; clear hK K; try clear kk
     refine zm ?_
     refine zk (by first | exact congrArg PV.bool h13 | rfl) ?_
     refine zy ?_; refine nmx ?_
     refine zm ?_
     refine zC ?_
     refine zb fun K kk hK => ?_
     simp only [go_sem, hl0a, hl0b, hl0d, hl0w]
     refine hK _ _ fun nx => ?_; clear hK K; try clear kk
     obtain ⟨awO, h14, hh⟩ := ze hh
     obtain ⟨h14a, h14c⟩ := Qm h14
     have h14g := X7 h14a
     have h14d := aai (f := za.pv) h14c
     try simp only [Int.toNat_natCast, Int.reduceToNat, List.map_cons, List.map_nil, pvE] at h14d
     obtain ⟨al9, h15, hh⟩ := ze hh
     refine zb fun K kk hK => ?_
     simp only [go_sem, h14a.1, h14a.2.1, h14a.2.2, h14d, h14g, hl0a, hl0b, hl0d, hl0w]
     (repeat refine sd ?_)
     refine zg (xM _ _ h15) (by (try simp only [go_sem, h14a.1, h14a.2.1, h14a.2.2, h14d, h14g, hl0a, hl0b, hl0d, hl0w]) <;> exact wkl) (by rfl) (by rfl) ?_
     simp only [go_sem, h14a.1, h14a.2.1, h14a.2.2, h14d, h14g, hl0a, hl0b, hl0d, hl0w]
     (repeat refine sd ?_)
     refine hK _ _ fun nx => ?_; clear hK K; try clear kk
     obtain ⟨awe, h16, hh⟩ := ze hh
     obtain ⟨h16a, h16b, h16c⟩ := rd_some h16
     have h16d := kR (f := za.pv) h16c
     have h16f := wL (f := za.pv) h16c
     try simp only [Int.toNat_natCast, Int.reduceToNat] at h16d h16f
     refine zt fun K kk hK => ?_
     simp only [go_sem, h16a, h16b, h16d, h16f.1, h16f.2, hl0a, hl0b, hl0d, hl0w]
     (repeat refine sd ?_)
     refine hK _ _ fun nx => ?_; clear hK K; try clear kk
     refine nmx ?_
     refine zt fun K kk hK => ?_
     simp only [go_sem, hl0a, hl0b, hl0d, hl0w]
     refine hK _ _ fun nx => ?_; clear hK K; try clear kk
     refine nmx ?_
     have ih' := ih (pre ++ [atN]) (KA + 1) _ _ (by rw [hsplit]; simp) (by simp [hidx]) hh nx
     refine zH ?_
     first | exact ih' _ | (simp only [pvE, lsE, zo] at ih' ⊢; exact ih' _) | (simp only [pvE, lsE, zo, h13, h2] at ih' ⊢; exact ih' _)
   exact key wB [] _ _ _ rfl rfl f0 _ _
  ·rintro s ⟨t, hless, akX, rfl, avY, avV, aqa, nx, g2, rfl⟩
   try dsimp only at hh
   refine nmy ?_
   first | (refine qW hless ?_; try refine wY ?_) | refine qC hless ?_ | refine qD hless ?_
   refine zb fun K kk hK => ?_
   simp only [go_sem]
   refine hK _ _ fun nx => ?_; clear hK K; try clear kk
   refine zn ?_; refine nmx ?_
   obtain hR := Option.some.inj hh
   subst hR
   exact zz
  ·intro i s h; exact h.elim
  ·intro s h; exact h.elim
theorem agU (n_1 : za) (QO : Int) (adL : Int) (R : (qH × Int)) (hh : yc n_1 QO adL = some R) : PC Tryz.prog 69 [.agg [.str n_1.Kind, .str n_1.Text, .list 1 (n_1.Marks.map PV.str), .list 2 (n_1.zq.map zf.pv), .list 5 (n_1.Kids.map za.pv)], .int .i64 QO, .int .i64 adL] (.tup [.agg [.list 1 (R.1.path.map (PV.int .i64)), .str R.1.in_.Kind, .str R.1.in_.Text, .list 1 (R.1.in_.Marks.map PV.str), .list 2 (R.1.in_.zq.map zf.pv), .list 5 (R.1.in_.Kids.map za.pv), .int .i64 R.1.from_, .int .i64 R.1.to_], .int .i64 R.2]) := by
 rw [yc] at hh
 refine adv rfl ?_
 refine zt fun K kk hK => ?_
 simp only [go_sem]
 refine hK _ _ fun nx => ?_; clear hK K; try clear kk
 refine nmx ?_
 refine avz 7 6 _ _ _ _ _ _ [1, 2, 3] [3] ⟨rfl, rfl, rfl, rfl, by decide, by decide, by decide, rfl, rfl, rfl, rfl⟩ rfl ?_
 refine auK (t := ⟨[(7, .box 1000 0 0), (6, .box 1001 0 0), (1, .int .i64 QO), (2, .int .i64 adL), (3, .box 3 _ 0)], [(1000, 0, .var 33 [.int .i64 (0 : Int)]), (1001, 0, .var 115 [.list 1 ([].map (PV.int .i64)), .str ([] : Str), .str ([] : Str), .list 1 ([].map PV.str), .list 2 ([].map zf.pv), .list 5 ([].map za.pv), .int .i64 (0 : Int), .int .i64 (0 : Int)]), (3, _, .var 28 [.str n_1.Kind, .str n_1.Text, .list 1 (n_1.Marks.map PV.str), .list 2 (n_1.zq.map zf.pv), .list 5 (n_1.Kids.map za.pv)])], nx⟩) ?_ (by rfl)
 refine zm ?_
 by_cases h1 : (n_1.Kind == ([116, 101, 120, 116] : Str)) = true
 ·rw [if_pos h1] at hh
  refine zb fun K kk hK => ?_
  simp only [go_sem, h1]
  (repeat refine sd ?_)
  refine hK _ _ fun nx => ?_; clear hK K; try clear kk
  refine zk rfl ?_
  refine zb fun K kk hK => ?_
  simp only [go_sem]
  refine hK _ _ fun nx => ?_; clear hK K; try clear kk
  refine zn ?_; refine nmx ?_
  obtain ⟨⟨v_4, asO⟩, h2, hh⟩ := ze hh
  dsimp only at hh
  obtain hR := Option.some.inj hh
  subst hR
  refine QQ (kP _ _ _ h2) (by (try simp only [go_sem, h1]) <;> exact wkb) (by rfl) ?_ (by rfl)
  simp only [St.Vq, dKs, go_sem, h1, wX, j6, kW, vY, ZM, List.map_cons, List.map_append, List.head?_cons]
  all_goals exact wkw
 ·rw [if_neg h1] at hh
  replace h1 := Bool.eq_false_iff.mpr h1
  obtain ⟨ajI, h3, hh⟩ := ze hh
  refine zb fun K kk hK => ?_
  simp only [go_sem, h1]
  (repeat refine sd ?_)
  refine zg (abg _ _ h3) (by (try simp only [go_sem, h1]) <;> exact wkl) (by rfl) (by rfl) ?_
  simp only [go_sem, h1]
  (repeat refine sd ?_)
  refine hK _ _ fun nx => ?_; clear hK K; try clear kk
  by_cases h4 : (!ajI) = true
  ·rw [if_pos h4] at hh
   refine zk (by first | exact congrArg PV.bool h4 | rfl) ?_
   refine zb fun K kk hK => ?_
   simp only [go_sem]
   refine hK _ _ fun nx => ?_; clear hK K; try clear kk
   refine zn ?_; refine nmx ?_
   obtain ⟨⟨v_7, aq3⟩, h5, hh⟩ := ze hh
   dsimp only at hh
   obtain hR := Option.some.inj hh
   subst hR
   refine QQ (kP _ _ _ h5) (by (try simp only [go_sem, h1, h4]) <;> exact wkb) (by rfl) ?_ (by rfl)
   simp only [St.Vq, dKs, go_sem, h1, h4, wX, j6, kW, vY, ZM, List.map_cons, List.map_append, List.head?_cons]
   all_goals exact wkw
  ·rw [if_neg h4] at hh
   replace h4 := Bool.eq_false_iff.mpr h4
   refine zh (by first | exact congrArg PV.bool h4 | rfl) ?_
   refine zy ?_; refine nmx ?_
   obtain ⟨⟨r_9, Jm⟩, h6, hh⟩ := ze hh
   dsimp only at hh
   refine zb fun K kk hK => ?_
   simp only [go_sem]
   refine zg (QP _ _ _ h6) (by (try simp only [go_sem]) <;> exact wkl) (by rfl) (by rfl) ?_
   simp only [go_sem]
   refine hK _ _ fun nx => ?_; clear hK K; try clear kk
   refine zm ?_
   refine zb fun K kk hK => ?_
   simp only [go_sem]
   refine hK _ _ fun nx => ?_; clear hK K; try clear kk
   by_cases h7 : (Jm != (0 : Int)) = true
   ·rw [if_pos h7] at hh
    refine zk (by first | exact congrArg PV.bool h7 | rfl) ?_
    refine zb fun K kk hK => ?_
    simp only [go_sem]
    refine hK _ _ fun nx => ?_; clear hK K; try clear kk
    refine zn ?_; refine nmx ?_
    obtain ⟨⟨KA, apk⟩, h8, hh⟩ := ze hh
    dsimp only at hh
    obtain hR := Option.some.inj hh
    subst hR
    refine QQ (kP _ _ _ h8) (by (try simp only [go_sem, h1, h4, h7]) <;> exact wkb) (by rfl) ?_ (by rfl)
    simp only [St.Vq, dKs, go_sem, h1, h4, h7, wX, j6, kW, vY, ZM, List.map_cons, List.map_append, List.head?_cons]
    all_goals exact wkw
   ·rw [if_neg h7] at hh
    replace h7 := Bool.eq_false_iff.mpr h7
    refine zh (by first | exact congrArg PV.bool h7 | rfl) ?_
    refine zy ?_; refine nmx ?_
    obtain ⟨⟨amC, ajY⟩, h9, hh⟩ := ze hh
    dsimp only at hh
    refine zb fun K kk hK => ?_
    simp only [go_sem]
    refine zg (QP _ _ _ h9) (by (try simp only [go_sem]) <;> exact wkl) (by rfl) (by rfl) ?_
    simp only [go_sem]
    refine hK _ _ fun nx => ?_; clear hK K; try clear kk
    refine zm ?_
    refine zC ?_
    refine zb fun K kk hK => ?_
    simp only [go_sem]
    refine hK _ _ fun nx => ?_; clear hK K; try clear kk
    by_cases h10 : (ajY != (0 : Int)) = true
    ·rw [if_pos h10] at hh
     refine zk (by first | exact congrArg PV.bool h10 | rfl) ?_
     refine zb fun K kk hK => ?_
     simp only [go_sem]
     refine hK _ _ fun nx => ?_; clear hK K; try clear kk
     refine zn ?_; refine nmx ?_
     obtain ⟨⟨asI, aoQ⟩, h11, hh⟩ := ze hh
     dsimp only at hh
     obtain hR := Option.some.inj hh
     subst hR
     refine QQ (kP _ _ _ h11) (by (try simp only [go_sem, h1, h10, h4, h7]) <;> exact wkb) (by rfl) ?_ (by rfl)
     simp only [St.Vq, dKs, go_sem, h1, h10, h4, h7, wX, j6, kW, vY, ZM, List.map_cons, List.map_append, List.head?_cons]
     all_goals exact wkw
    ·rw [if_neg h10] at hh
     replace h10 := Bool.eq_false_iff.mpr h10
     refine zh (by first | exact congrArg PV.bool h10 | rfl) ?_
     refine zb fun K kk hK => ?_
     simp only [go_sem]
     refine hK _ _ fun nx => ?_; clear hK K; try clear kk
     by_cases h12 : (decide (adL < QO)) = true
     ·rw [if_pos h12] at hh
      refine zk (by first | exact congrArg PV.bool h12 | rfl) ?_
      refine zb fun K kk hK => ?_
      simp only [go_sem]
      refine hK _ _ fun nx => ?_; clear hK K; try clear kk
      refine zn ?_; refine nmx ?_
      obtain ⟨⟨amm, aow⟩, h13, hh⟩ := ze hh
      dsimp only at hh
      obtain hR := Option.some.inj hh
      subst hR
      refine QQ (kP _ _ _ h13) (by (try simp only [go_sem, h1, h10, h12, h4, h7]) <;> exact wkb) (by rfl) ?_ (by rfl)
      simp only [St.Vq, dKs, go_sem, h1, h10, h12, h4, h7, wX, j6, kW, vY, ZM, List.map_cons, List.map_append, List.head?_cons]
      all_goals exact wkw
     ·rw [if_neg h12] at hh
      replace h12 := Bool.eq_false_iff.mpr h12
      refine zh (by first | exact congrArg PV.bool h12 | rfl) ?_
      obtain ⟨am9, h14, hh⟩ := ze hh
      refine zb fun K kk hK => ?_
      simp only [go_sem]
      refine zg (aap _ _ _ h14) (by (try simp only [go_sem]) <;> exact wkl) (by rfl) (by rfl) ?_
      simp only [go_sem]
      refine hK _ _ fun nx => ?_; clear hK K; try clear kk
      by_cases h15 : (!am9) = true
      ·rw [if_pos h15] at hh
       refine zk (by first | exact congrArg PV.bool h15 | rfl) ?_
       refine zb fun K kk hK => ?_
       simp only [go_sem]
       refine hK _ _ fun nx => ?_; clear hK K; try clear kk
       refine zn ?_; refine nmx ?_
       obtain ⟨⟨aqI, aog⟩, h16, hh⟩ := ze hh
       dsimp only at hh
       obtain hR := Option.some.inj hh
       subst hR
       refine QQ (kP _ _ _ h16) (by (try simp only [go_sem, h1, h10, h12, h15, h4, h7]) <;> exact wkb) (by rfl) ?_ (by rfl)
       simp only [St.Vq, dKs, go_sem, h1, h10, h12, h15, h4, h7, wX, j6, kW, vY, ZM, List.map_cons, List.map_append, List.head?_cons]
       all_goals exact wkw
      ·rw [if_neg h15] at hh
       replace h15 := Bool.eq_false_iff.mpr h15
       refine zh (by first | exact congrArg PV.bool h15 | rfl) ?_
       refine zy ?_; refine nmx ?_
       obtain ⟨⟨avp, awX⟩, h17, hh⟩ := ze hh
       dsimp only at hh
       refine zb fun K kk hK => ?_
       simp only [go_sem]
       refine zg (ag5 _ _ _ h17) (by (try simp only [go_sem]) <;> exact wkl) (by rfl) (by rfl) ?_
       simp only [go_sem]
       refine hK _ _ fun nx => ?_; clear hK K; try clear kk
       obtain ⟨⟨avL, avX⟩, h18, hh⟩ := ze hh
       dsimp only at hh
       refine zb fun K kk hK => ?_
       simp only [go_sem]
       refine zg (xZ _ _ _ h18) (by (try simp only [go_sem]) <;> exact wkl) (by rfl) (by rfl) ?_
       simp only [go_sem]
       refine hK _ _ fun nx => ?_; clear hK K; try clear kk
       refine zb fun K kk hK => ?_
       simp only [go_sem]
       refine hK _ _ fun nx => ?_; clear hK K; try clear kk
       refine zn ?_; refine nmx ?_
       obtain ⟨⟨Yl, ao8⟩, h19, hh⟩ := ze hh
       dsimp only at hh
       obtain hR := Option.some.inj hh
       subst hR
       refine QQ (kP _ _ _ h19) (by (try simp only [go_sem, h1, h10, h12, h15, h4, h7]) <;> exact wkb) (by rfl) ?_ (by rfl)
       simp only [St.Vq, dKs, go_sem, h1, h10, h12, h15, h4, h7, wX, j6, kW, vY, ZM, List.map_cons, List.map_append, List.head?_cons]
       all_goals exact wkw
end Go.Proofs.YtclohbgnaopjfaaGreatDoor
