/- Texts of the proof of diffLeastCard -/
import Derived.Test.YtclohbgnaopjfaaDoorAgC
import Derived.Test.YtclohbgnaopjfaaDoorAgF
import Derived.Test.YtclohbgnaopjfaaDoorAgK0
import Derived.Test.YtclohbgnaopjfaaDoorAgK2
import Derived.Test.YtclohbgnaopjfaaDoorAgK5
import Derived.Test.YtclohbgnaopjfaaDoorAgL
namespace Go.Proofs.YtclohbgnaopjfaaDoor
set_option linter.unusedSimpArgs false
set_option linter.unusedVariables false
open Go
set_option maxRecDepth 100000
theorem yK (n_1 : za) (wu : (List Int)) (R : (za × Int)) (hh : kY n_1 wu = some R) : PC Tryd.prog 75 [.agg [.str n_1.Kind, .str n_1.Text, .list 1 (n_1.Marks.map PV.str), .list 2 (n_1.zh.map ze.pv), .list 5 (n_1.Kids.map za.pv)], .list 1 (wu.map (PV.int .i64))] (.tup [.agg [.str R.1.Kind, .str R.1.Text, .list 1 (R.1.Marks.map PV.str), .list 2 (R.1.zh.map ze.pv), .list 5 (R.1.Kids.map za.pv)], .int .i64 R.2]) := by
 rw [kY] at hh
 refine acm rfl ?_
 refine zb fun K kk hK => ?_
 simp only [go_sem]
 refine hK _ _ fun nx => ?_; clear hK K; try clear kk
 refine zn ?_
 refine zb fun K kk hK => ?_
 simp only [go_sem]
 refine hK _ _ fun nx => ?_; clear hK K; try clear kk
 obtain ⟨e0, f0, hh⟩ := zf hh
 obtain ⟨hlen0, f0⟩ := qf f0
 refine qH (w9 (fun s => ∃ XT, .inr XT = e0 ∧ ∃ (WJ : Int) (Ji : Bool) (nx : Nat) (g2 : Nat) (g4 : Nat), s = ⟨[(2, .box 2 g2 0), (4, .box 4 g4 0), (8, .list 1 (wu.map (PV.int .i64))), (9, .int .i64 (wu.length : Int)), (10, .int .i64 WJ), (11, .bool Ji)], [(2, g2, .var 28 [.str XT.Kind, .str XT.Text, .list 1 (XT.Marks.map PV.str), .list 2 (XT.zh.map ze.pv), .list 5 (XT.Kids.map za.pv)]), (4, g4, .var 28 [.str ([] : Str), .str ([] : Str), .list 1 ([].map PV.str), .list 2 ([].map ze.pv), .list 5 ([].map za.pv)])], nx⟩))
  (fun i s => False)
  (fun s => ∃ Jl, .inl Jl = e0 ∧ zS Tryd.prog [.cell 4 28, .tmp 5] (.tup [.agg [.str Jl.1.Kind, .str Jl.1.Text, .list 1 (Jl.1.Marks.map PV.str), .list 2 (Jl.1.zh.map ze.pv), .list 5 (Jl.1.Kids.map za.pv)], .int .i64 Jl.2]) [] .ret s) ?_ ?_ ?_ ?_
 ·refine zA ?_
  refine qb fun I hI => ?_
  have key : ∀ (suf pre : List Int) (v_6 : Int) (n_5 : za), wu = pre ++ suf → v_6 = (pre.length : Int) → qF suf v_6 n_5 = some e0 → ∀ (nx : Nat) (g2 : Nat) (g4 : Nat), I ⟨[(2, .box 2 g2 0), (4, .box 4 g4 0), (8, .list 1 (wu.map (PV.int .i64))), (9, .int .i64 (wu.length : Int)), (10, .int .i64 v_6)], [(2, g2, .var 28 [.str n_5.Kind, .str n_5.Text, .list 1 (n_5.Marks.map PV.str), .list 2 (n_5.zh.map ze.pv), .list 5 (n_5.Kids.map za.pv)]), (4, g4, .var 28 [.str ([] : Str), .str ([] : Str), .list 1 ([].map PV.str), .list 2 ([].map ze.pv), .list 5 ([].map za.pv)])], nx⟩ := by
   intro suf
   induction suf with
   | nil =>
    intro pre v_6 n_5 hsplit hidx hh nx g2 g4
    rw [qF] at hh
    refine hI _ ?_
    have h13 := walk_nil hsplit hidx
    refine zb fun K kk hK => ?_
    simp only [go_sem]
    refine hK _ _ fun nx => ?_; clear hK K; try clear kk
    refine zn ?_
    refine zi (by first | exact congrArg PV.bool h13 | rfl) ?_
    refine zU ?_; refine nmx ?_
    refine wU ?_
    refine zG ?_
    refine ⟨_, (Option.some.inj hh), ?_⟩
    first | exact ⟨_, _, _, _, _, rfl⟩ | (simp only [pvE, lsE, zo]; exact ⟨_, _, _, _, _, rfl⟩) | (simp only [pvE, lsE, zo, h13]; exact ⟨_, _, _, _, _, rfl⟩)
   | cons y_9 suf ih =>
    intro pre v_6 n_5 hsplit hidx hh nx g2 g4
    rw [qF] at hh
    refine hI _ ?_
    obtain ⟨hl0a, hl0b, hl0d, hl0w, h13⟩ := qX (f := (PV.int .i64)) hsplit hidx hlen0
    refine zb fun K kk hK => ?_
    simp only [go_sem]
    refine hK _ _ fun nx => ?_; clear hK K; try clear kk
    refine zn ?_
    refine zm (by first | exact congrArg PV.bool h13 | rfl) ?_
    refine zt ?_; refine nmx ?_
    refine zn ?_
    refine zA ?_
    refine zb fun K kk hK => ?_
    simp only [go_sem, hl0a, hl0b, hl0d, hl0w]
    refine hK _ _ fun nx => ?_; clear hK K; try clear kk
    refine zn ?_
    by_cases h14 : (decide (y_9 < (0 : Int))) = true
    ·rw [if_pos h14] at hh
     refine zb fun K kk hK => ?_
     simp only [go_sem, h14, of_decide_eq_true h14, hl0a, hl0b, hl0d, hl0w]
     (repeat refine sd ?_)
     refine hK _ _ fun nx => ?_; clear hK K; try clear kk
     refine zm rfl ?_
     refine zb fun K kk hK => ?_
     simp only [go_sem, hl0a, hl0b, hl0d, hl0w]
     refine hK _ _ fun nx => ?_; clear hK K; try clear kk
     refine zk ?_; refine nmx ?_
     refine QF ⟨_, (Option.some.inj hh), ?_⟩
     exact zy
    ·rw [if_neg h14] at hh
     replace h14 := Bool.eq_false_iff.mpr h14
     by_cases h15 : (decide (y_9 ≥ (n_5.Kids.length : Int))) = true
     ·rw [if_pos h15] at hh
      refine zb fun K kk hK => ?_
      simp only [go_sem, h14, of_decide_eq_false h14, h15, of_decide_eq_true h15, hl0a, hl0b, hl0d, hl0w]
      (repeat refine sd ?_)
      refine hK _ _ fun nx => ?_; clear hK K; try clear kk
      refine zm rfl ?_
      refine zb fun K kk hK => ?_
      simp only [go_sem, hl0a, hl0b, hl0d, hl0w]
      refine hK _ _ fun nx => ?_; clear hK K; try clear kk
      refine zk ?_; refine nmx ?_
      refine QF ⟨_, (Option.some.inj hh), ?_⟩
      exact zy
     ·rw [if_neg h15] at hh
      replace h15 := Bool.eq_false_iff.mpr h15
      refine zb fun K kk hK => ?_
      simp only [go_sem, h14, of_decide_eq_false h14, h15, of_decide_eq_false h15, hl0a, hl0b, hl0d, hl0w]
      (repeat refine sd ?_)
      refine hK _ _ fun nx => ?_; clear hK K; try clear kk
      by_cases h16 : (n_5.Kind == ([116, 101, 120, 116] : Str)) = true
      ·rw [if_pos h16] at hh
       refine zm (by first | exact congrArg PV.bool h16 | rfl) ?_
       refine zb fun K kk hK => ?_
       simp only [go_sem, hl0a, hl0b, hl0d, hl0w]
       refine hK _ _ fun nx => ?_; clear hK K; try clear kk
       refine zk ?_; refine nmx ?_
       refine QF ⟨_, (Option.some.inj hh), ?_⟩
       exact zy
      ·rw [if_neg h16] at hh
       replace h16 := Bool.eq_false_iff.mpr h16
       refine zi (by first | exact congrArg PV.bool h16 | rfl) ?_
       refine zt ?_; refine nmx ?_
       obtain ⟨adZ, h17, hh⟩ := zf hh
       obtain ⟨h17a, h17b, h17c⟩ := rd_some h17
       have h17d := wN (f := za.pv) h17c
       have h17f := qG (f := za.pv) h17c
       try simp only [Int.toNat_natCast, Int.reduceToNat] at h17d h17f
       refine zq fun K kk hK => ?_
       simp only [go_sem, h17a, h17b, h17d, h17f.1, h17f.2, hl0a, hl0b, hl0d, hl0w]
       (repeat refine sd ?_)
       refine hK _ _ fun nx => ?_; clear hK K; try clear kk
       refine nmx ?_
       refine zq fun K kk hK => ?_
       simp only [go_sem, hl0a, hl0b, hl0d, hl0w]
       refine hK _ _ fun nx => ?_; clear hK K; try clear kk
       refine nmx ?_
       have ih' := ih (pre ++ [y_9]) (v_6 + 1) _ (by rw [hsplit]; simp) (by simp [hidx]) hh nx
       refine zG ?_
       first | exact ih' _ _ | (simp only [pvE, lsE, zo] at ih' ⊢; exact ih' _ _) | (simp only [pvE, lsE, zo, h13, h14, h15, h16] at ih' ⊢; exact ih' _ _)
  exact key wu [] _ _ rfl rfl f0 _ _ _
 ·rintro s ⟨t, hless, XT, rfl, WJ, Ji, nx, g2, g4, rfl⟩
  try dsimp only at hh
  refine nmy ?_
  first | (refine wG hless ?_; try refine ku ?_) | refine qP hless ?_ | refine qQ hless ?_
  refine zn ?_
  refine zb fun K kk hK => ?_
  simp only [go_sem]
  refine hK _ _ fun nx => ?_; clear hK K; try clear kk
  by_cases h18 : (XT.Kind == ([116, 101, 120, 116] : Str)) = true
  ·rw [if_pos h18] at hh
   refine zm (by first | exact congrArg PV.bool h18 | rfl) ?_
   refine zb fun K kk hK => ?_
   simp only [go_sem]
   refine hK _ _ fun nx => ?_; clear hK K; try clear kk
   refine zk ?_; refine nmx ?_
   obtain hR := Option.some.inj hh
   subst hR
   exact zy
  ·rw [if_neg h18] at hh
   replace h18 := Bool.eq_false_iff.mpr h18
   refine zi (by first | exact congrArg PV.bool h18 | rfl) ?_
   refine zt ?_; refine nmx ?_
   refine zb fun K kk hK => ?_
   simp only [go_sem]
   refine hK _ _ fun nx => ?_; clear hK K; try clear kk
   refine zk ?_; refine nmx ?_
   obtain hR := Option.some.inj hh
   subst hR
   exact zy
 ·intro i s h; exact h.elim
 ·rintro s ⟨Jl, rfl, hb⟩
  try dsimp only at hh
  obtain hR := Option.some.inj hh
  subst hR
  refine nmx ?_
  exact hb
theorem Wx (n_1 : za) (Vw : Int) (R : (wo × Int)) (hh : kT n_1 Vw = some R) : PC Tryd.prog 97 [.agg [.str n_1.Kind, .str n_1.Text, .list 1 (n_1.Marks.map PV.str), .list 2 (n_1.zh.map ze.pv), .list 5 (n_1.Kids.map za.pv)], .int .i64 Vw] (.tup [.agg [.list 1 (R.1.Path.map (PV.int .i64)), .int .i64 R.1.Index, .int .i64 R.1.Offset], .int .i64 R.2]) := by
 rw [kT] at hh
 refine aap rfl ?_
 refine zb fun K kk hK => ?_
 simp only [go_sem]
 refine hK _ _ fun nx => ?_; clear hK K; try clear kk
 refine aiy ?_
 refine zn ?_
 by_cases h1 : (n_1.Kind == ([116, 101, 120, 116] : Str)) = true
 ·rw [if_pos h1] at hh
  refine zb fun K kk hK => ?_
  simp only [go_sem, h1]
  (repeat refine sd ?_)
  refine hK _ _ fun nx => ?_; clear hK K; try clear kk
  refine zm rfl ?_
  refine zb fun K kk hK => ?_
  simp only [go_sem]
  refine hK _ _ fun nx => ?_; clear hK K; try clear kk
  refine zk ?_; refine nmx ?_
  obtain hR := Option.some.inj hh
  subst hR
  exact zy
 ·rw [if_neg h1] at hh
  replace h1 := Bool.eq_false_iff.mpr h1
  by_cases h2 : (decide (Vw < (0 : Int))) = true
  ·rw [if_pos h2] at hh
   refine zb fun K kk hK => ?_
   simp only [go_sem, h1, h2, of_decide_eq_true h2]
   (repeat refine sd ?_)
   refine hK _ _ fun nx => ?_; clear hK K; try clear kk
   refine zm rfl ?_
   refine zb fun K kk hK => ?_
   simp only [go_sem]
   refine hK _ _ fun nx => ?_; clear hK K; try clear kk
   refine zk ?_; refine nmx ?_
   obtain hR := Option.some.inj hh
   subst hR
   exact zy
  ·rw [if_neg h2] at hh
   replace h2 := Bool.eq_false_iff.mpr h2
   obtain ⟨QA, h3, hh⟩ := zf hh
   refine zb fun K kk hK => ?_
   simp only [go_sem, h1, h2, of_decide_eq_false h2]
   (repeat refine sd ?_)
   refine zg (jA _ _ h3) (by (try simp only [go_sem, h1, h2, of_decide_eq_false h2]) <;> exact wkl) (by rfl) (by rfl) ?_
   simp only [go_sem, h1, h2, of_decide_eq_false h2]
   (repeat refine sd ?_)
   refine hK _ _ fun nx => ?_; clear hK K; try clear kk
   by_cases h4 : (decide (Vw > QA)) = true
   ·rw [if_pos h4] at hh
    refine zm (by first | exact congrArg PV.bool h4 | rfl) ?_
    refine zb fun K kk hK => ?_
    simp only [go_sem]
    refine hK _ _ fun nx => ?_; clear hK K; try clear kk
    refine zk ?_; refine nmx ?_
    obtain hR := Option.some.inj hh
    subst hR
    exact zy
   ·rw [if_neg h4] at hh
    replace h4 := Bool.eq_false_iff.mpr h4
    refine zi (by first | exact congrArg PV.bool h4 | rfl) ?_
    refine zt ?_; refine nmx ?_
    refine zb fun K kk hK => ?_
    simp only [go_sem]
    refine hK _ _ fun nx => ?_; clear hK K; try clear kk
    refine zn ?_
    refine ajz ?_; refine nmx ?_
    obtain ⟨e0, f0, hh⟩ := zf hh
    refine qH (w9 (fun s => False))
     (fun i s => False)
     (fun s => ∃ Yu, Yu = e0 ∧ zS Tryd.prog [.cell 4 149, .tmp 5] (.tup [.agg [.list 1 (Yu.1.Path.map (PV.int .i64)), .int .i64 Yu.1.Index, .int .i64 Yu.1.Offset], .int .i64 Yu.2]) [] .ret s) ?_ ?_ ?_ ?_
    ·refine zA ?_
     refine qb fun I hI => ?_
     obtain ⟨k, f0⟩ := jH f0
     have key : ∀ (k : Nat) (aeK : Int) (QR : za) (XW : (List Int)), wY k aeK QR XW = some e0 → ∀ (nx : Nat) (g2 : Nat) (g4 : Nat) (g6 : Nat) (g342 : Nat), I ⟨[(1, .int .i64 aeK), (2, .box 2 g2 0), (4, .box 4 g4 0), (6, .box 6 g6 0)], [(2, g2, .var 28 [.str QR.Kind, .str QR.Text, .list 1 (QR.Marks.map PV.str), .list 2 (QR.zh.map ze.pv), .list 5 (QR.Kids.map za.pv)]), (4, g4, .var 149 [.list 1 ([].map (PV.int .i64)), .int .i64 (0 : Int), .int .i64 (0 : Int)]), (6, g6, .var 149 [.row 342 g342 XW.length, .int .i64 (0 : Int), .int .i64 (0 : Int)]), (342, g342, .row false 1 (XW.map (PV.int .i64)))], nx⟩ := by
      intro k
      induction k with
      | zero => intro aeK QR XW hh; rw [wY] at hh; cases hh
      | succ k ih =>
       intro aeK QR XW hh nx g2 g4 g6 g342
       rw [wY] at hh
       refine hI _ ?_
       refine zA ?_
       refine zn ?_
       refine zb fun K kk hK => ?_
       simp only [go_sem]
       refine hK _ _ fun nx => ?_; clear hK K; try clear kk
       obtain ⟨e2, f2, hh⟩ := zf hh
       obtain ⟨hlen2, f2⟩ := qf f2
       refine qH (w9 (fun s => .inr (.inr ()) = e2 ∧ ∃ (arE : Int) (arX : Int) (awk : Bool) (nx : Nat) (g2 : Nat) (g4 : Nat) (g6 : Nat) (g342 : Nat), s = ⟨[(1, .int .i64 arE), (2, .box 2 g2 0), (4, .box 4 g4 0), (6, .box 6 g6 0), (26, .list 5 (QR.Kids.map za.pv)), (27, .int .i64 (QR.Kids.length : Int)), (28, .int .i64 arX), (29, .bool awk)], [(2, g2, .var 28 [.str QR.Kind, .str QR.Text, .list 1 (QR.Marks.map PV.str), .list 2 (QR.zh.map ze.pv), .list 5 (QR.Kids.map za.pv)]), (4, g4, .var 149 [.list 1 ([].map (PV.int .i64)), .int .i64 (0 : Int), .int .i64 (0 : Int)]), (6, g6, .var 149 [.row 342 g342 XW.length, .int .i64 (0 : Int), .int .i64 (0 : Int)]), (342, g342, .row false 1 (XW.map (PV.int .i64)))], nx⟩))
        (fun i s => (i = 1 ∧ ∃ ahw, ∃ akf, ∃ Yz, .inr (.inl (ahw, akf, Yz)) = e2 ∧ ∃ (nx : Nat) (g2 : Nat) (g4 : Nat) (g6 : Nat) (g342 : Nat), s = ⟨[(1, .int .i64 ahw), (2, .box 2 g2 0), (4, .box 4 g4 0), (6, .box 6 g6 0)], [(2, g2, .var 28 [.str akf.Kind, .str akf.Text, .list 1 (akf.Marks.map PV.str), .list 2 (akf.zh.map ze.pv), .list 5 (akf.Kids.map za.pv)]), (4, g4, .var 149 [.list 1 ([].map (PV.int .i64)), .int .i64 (0 : Int), .int .i64 (0 : Int)]), (6, g6, .var 149 [.row 342 g342 Yz.length, .int .i64 (0 : Int), .int .i64 (0 : Int)]), (342, g342, .row false 1 (Yz.map (PV.int .i64)))], nx⟩))
        (fun s => ∃ YB, .inl YB = e2 ∧ zS Tryd.prog [.cell 4 149, .tmp 5] (.tup [.agg [.list 1 (YB.1.Path.map (PV.int .i64)), .int .i64 YB.1.Index, .int .i64 YB.1.Offset], .int .i64 YB.2]) [] .ret s) ?_ ?_ ?_ ?_
       ·refine zA ?_
        refine qb fun I hI => ?_
        have key : ∀ (suf pre : List za) (abG : Int) (Wv : Int), QR.Kids = pre ++ suf → abG = (pre.length : Int) → qa XW suf abG Wv = some e2 → ∀ (nx : Nat) (g2 : Nat) (g4 : Nat) (g6 : Nat) (g342 : Nat), I ⟨[(1, .int .i64 Wv), (2, .box 2 g2 0), (4, .box 4 g4 0), (6, .box 6 g6 0), (26, .list 5 (QR.Kids.map za.pv)), (27, .int .i64 (QR.Kids.length : Int)), (28, .int .i64 abG)], [(2, g2, .var 28 [.str QR.Kind, .str QR.Text, .list 1 (QR.Marks.map PV.str), .list 2 (QR.zh.map ze.pv), .list 5 (QR.Kids.map za.pv)]), (4, g4, .var 149 [.list 1 ([].map (PV.int .i64)), .int .i64 (0 : Int), .int .i64 (0 : Int)]), (6, g6, .var 149 [.row 342 g342 XW.length, .int .i64 (0 : Int), .int .i64 (0 : Int)]), (342, g342, .row false 1 (XW.map (PV.int .i64)))], nx⟩ := by
         intro suf
         induction suf with
         | nil =>
          intro pre abG Wv hsplit hidx hh nx g2 g4 g6 g342
          rw [qa] at hh
          refine hI _ ?_
          have h39 := walk_nil hsplit hidx
          refine zb fun K kk hK => ?_
          simp only [go_sem]
          refine hK _ _ fun nx => ?_; clear hK K; try clear kk
          refine zn ?_
          refine zi (by first | exact congrArg PV.bool h39 | rfl) ?_
          refine zU ?_; refine nmx ?_
          refine wU ?_
          refine zG ?_
          refine ⟨(Option.some.inj hh), ?_⟩
          first | exact ⟨_, _, _, _, _, _, _, _, rfl⟩ | (simp only [pvE, lsE, zo]; exact ⟨_, _, _, _, _, _, _, _, rfl⟩) | (simp only [pvE, lsE, zo, h1, h2, h39, h4]; exact ⟨_, _, _, _, _, _, _, _, rfl⟩)
         | cons api suf ih =>
          intro pre abG Wv hsplit hidx hh nx g2 g4 g6 g342
          rw [qa] at hh
          refine hI _ ?_
          obtain ⟨hl2a, hl2b, hl2d, hl2w, h39⟩ := qX (f := za.pv) hsplit hidx hlen2
          refine zb fun K kk hK => ?_
          simp only [go_sem]
          refine hK _ _ fun nx => ?_; clear hK K; try clear kk
          refine zn ?_
          refine zm (by first | exact congrArg PV.bool h39 | rfl) ?_
          refine zt ?_; refine nmx ?_
          refine zn ?_
          refine zA ?_
          refine zb fun K kk hK => ?_
          simp only [go_sem, hl2a, hl2b, hl2d, hl2w]
          refine hK _ _ fun nx => ?_; clear hK K; try clear kk
          obtain ⟨afW, h40, hh⟩ := zf hh
          refine zb fun K kk hK => ?_
          simp only [go_sem, hl2a, hl2b, hl2d, hl2w]
          refine zg (QD _ _ h40) (by (try simp only [go_sem, hl2a, hl2b, hl2d, hl2w]) <;> exact wkl) (by rfl) (by rfl) ?_
          simp only [go_sem, hl2a, hl2b, hl2d, hl2w]
          refine hK _ _ fun nx => ?_; clear hK K; try clear kk
          refine zA ?_
          refine zb fun K kk hK => ?_
          simp only [go_sem, hl2a, hl2b, hl2d, hl2w]
          refine hK _ _ fun nx => ?_; clear hK K; try clear kk
          by_cases h41 : (decide (Wv ≥ afW)) = true
          ·rw [if_pos h41] at hh
           refine zm (by first | exact congrArg PV.bool h41 | rfl) ?_
           refine zq fun K kk hK => ?_
           simp only [go_sem, hl2a, hl2b, hl2d, hl2w]
           refine hK _ _ fun nx => ?_; clear hK K; try clear kk
           refine nmx ?_
           refine zq fun K kk hK => ?_
           simp only [go_sem, hl2a, hl2b, hl2d, hl2w]
           refine hK _ _ fun nx => ?_; clear hK K; try clear kk
           refine nmx ?_
           have ih' := ih (pre ++ [api]) (abG + 1) _ (by rw [hsplit]; simp) (by simp [hidx]) hh nx
           refine zG ?_
           first | exact ih' _ _ _ _ | (simp only [pvE, lsE, zo] at ih' ⊢; exact ih' _ _ _ _) | (simp only [pvE, lsE, zo, h1, h2, h39, h4, h41] at ih' ⊢; exact ih' _ _ _ _)
          ·rw [if_neg h41] at hh
           replace h41 := Bool.eq_false_iff.mpr h41
           refine zi (by first | exact congrArg PV.bool h41 | rfl) ?_
           refine zb fun K kk hK => ?_
           simp only [go_sem, hl2a, hl2b, hl2d, hl2w]
           refine hK _ _ fun nx => ?_; clear hK K; try clear kk
           by_cases h42 : (api.Kind == ([116, 101, 120, 116] : Str)) = true
           ·rw [if_pos h42] at hh
            refine zm (by first | exact congrArg PV.bool h42 | rfl) ?_
            refine zb fun K kk hK => ?_
            simp only [go_sem, hl2a, hl2b, hl2d, hl2w]
            refine hK _ _ fun nx => ?_; clear hK K; try clear kk
            refine zb fun K kk hK => ?_
            simp only [go_sem, hl2a, hl2b, hl2d, hl2w]
            refine hK _ _ fun nx => ?_; clear hK K; try clear kk
            refine zk ?_; refine nmx ?_
            refine QF ⟨_, (Option.some.inj hh), ?_⟩
            exact zy
           ·rw [if_neg h42] at hh
            replace h42 := Bool.eq_false_iff.mpr h42
            refine zi (by first | exact congrArg PV.bool h42 | rfl) ?_
            refine zb fun K kk hK => ?_
            simp only [go_sem, hl2a, hl2b, hl2d, hl2w]
            refine hK _ _ fun nx => ?_; clear hK K; try clear kk
            by_cases h43 : (Wv == (0 : Int)) = true
            ·rw [if_pos h43] at hh
             refine zm (by first | exact congrArg PV.bool h43 | rfl) ?_
             refine zb fun K kk hK => ?_
             simp only [go_sem, hl2a, hl2b, hl2d, hl2w]
             refine hK _ _ fun nx => ?_; clear hK K; try clear kk
             refine zb fun K kk hK => ?_
             simp only [go_sem, hl2a, hl2b, hl2d, hl2w]
             refine hK _ _ fun nx => ?_; clear hK K; try clear kk
             refine zk ?_; refine nmx ?_
             refine QF ⟨_, (Option.some.inj hh), ?_⟩
             exact zy
            ·rw [if_neg h43] at hh
             replace h43 := Bool.eq_false_iff.mpr h43
             refine zi (by first | exact congrArg PV.bool h43 | rfl) ?_
             obtain ⟨arH, h44, hh⟩ := zf hh
             obtain ⟨h44a, h44c⟩ := zW h44
             have h44d := qM (f := (PV.int .i64)) h44c
             have h44e := qL h44c
             try simp only [List.length_cons, List.length_nil, Nat.zero_add, Nat.reduceAdd] at h44a h44e
             try simp only [h44e] at h44a
             try simp only [List.map_cons, List.map_nil, List.nil_append, List.append_nil, List.cons_append, List.singleton_append, zo, pvE] at h44d
             refine zb fun K kk hK => ?_
             simp only [go_sem, h44a, h44d, h44e, hl2a, hl2b, hl2d, hl2w]
             (repeat refine sd ?_)
             refine hK _ _ fun nx => ?_; clear hK K; try clear kk
             refine zb fun K kk hK => ?_
             simp only [go_sem, hl2a, hl2b, hl2d, hl2w]
             refine hK _ _ fun nx => ?_; clear hK K; try clear kk
             refine zU ?_; refine nmx ?_
             refine as3 ⟨rfl, _, _, _, (Option.some.inj hh), ?_⟩
             first | exact ⟨_, _, _, _, _, rfl⟩ | (simp only [pvE, lsE, zo, h44e]; exact ⟨_, _, _, _, _, rfl⟩) | (simp only [pvE, lsE, zo, h44e, h1, h2, h39, h4, h41, h42, h43]; exact ⟨_, _, _, _, _, rfl⟩)
        exact key QR.Kids [] _ _ rfl rfl f2 _ _ _ _ _
       ·rintro s ⟨t, hless, rfl, arE, arX, awk, nx, g2, g4, g6, g342, rfl⟩
        try dsimp only at hh
        refine nmy ?_
        first | (refine wG hless ?_; try refine ku ?_) | refine qP hless ?_ | refine qQ hless ?_
        refine zb fun K kk hK => ?_
        simp only [go_sem]
        refine hK _ _ fun nx => ?_; clear hK K; try clear kk
        refine zb fun K kk hK => ?_
        simp only [go_sem]
        refine hK _ _ fun nx => ?_; clear hK K; try clear kk
        refine zk ?_; refine nmx ?_
        refine QF ⟨_, (Option.some.inj hh), ?_⟩
        exact zy
       ·intro i s h
        obtain ⟨rfl, ahw, akf, Yz, rfl, nx, g2, g4, g6, g342, rfl⟩ := h
        try dsimp only at hh
        refine nmx ?_
        have ih' := ih _ _ _ hh nx
        refine zG ?_
        first | exact ih' _ _ _ _ | (simp only [pvE, lsE, zo] at ih' ⊢; exact ih' _ _ _ _) | (simp only [pvE, lsE, zo, h1, h2, h4] at ih' ⊢; exact ih' _ _ _ _)
       ·rintro s ⟨YB, rfl, hb⟩
        try dsimp only at hh
        refine nmx ?_
        exact QF ⟨_, (Option.some.inj hh), hb⟩
     exact key _ _ _ _ f0 _ _ _ _ _
    ·rintro s ⟨_, _, h⟩; exact h.elim
    ·intro i s h; exact h.elim
    ·rintro s ⟨Yu, rfl, hb⟩
     try dsimp only at hh
     obtain hR := Option.some.inj hh
     subst hR
     refine nmx ?_
     exact hb
theorem ahF (n_1 : za) (Vw : Int) (R : ((List Int) × Bool)) (hh : yJ n_1 Vw = some R) : PC Tryd.prog 74 [.agg [.str n_1.Kind, .str n_1.Text, .list 1 (n_1.Marks.map PV.str), .list 2 (n_1.zh.map ze.pv), .list 5 (n_1.Kids.map za.pv)], .int .i64 Vw] (.tup [.list 1 (R.1.map (PV.int .i64)), .bool R.2]) := by
 rw [yJ] at hh
 refine acL rfl ?_
 refine zb fun K kk hK => ?_
 simp only [go_sem]
 refine hK _ _ fun nx => ?_; clear hK K; try clear kk
 refine zn ?_
 refine zb fun K kk hK => ?_
 simp only [go_sem]
 refine hK _ _ fun nx => ?_; clear hK K; try clear kk
 by_cases h1 : (Vw == (-1 : Int)) = true
 ·rw [if_pos h1] at hh
  refine zm (by first | exact congrArg PV.bool h1 | rfl) ?_
  refine zb fun K kk hK => ?_
  simp only [go_sem]
  refine hK _ _ fun nx => ?_; clear hK K; try clear kk
  refine zk ?_; refine nmx ?_
  obtain hR := Option.some.inj hh
  subst hR
  exact zy
 ·rw [if_neg h1] at hh
  replace h1 := Bool.eq_false_iff.mpr h1
  refine zi (by first | exact congrArg PV.bool h1 | rfl) ?_
  refine zt ?_; refine nmx ?_
  obtain ⟨⟨r_3, r_4⟩, h2, hh⟩ := zf hh
  dsimp only at hh
  refine zb fun K kk hK => ?_
  simp only [go_sem]
  refine zg (Wx _ _ _ h2) (by (try simp only [go_sem]) <;> exact wkl) (by rfl) (by rfl) ?_
  simp only [go_sem]
  refine hK _ _ fun nx => ?_; clear hK K; try clear kk
  refine zn ?_
  by_cases h3 : (r_4 != (0 : Int)) = true
  ·rw [if_pos h3] at hh
   refine zb fun K kk hK => ?_
   simp only [go_sem, h3]
   (repeat refine sd ?_)
   refine hK _ _ fun nx => ?_; clear hK K; try clear kk
   refine zm rfl ?_
   refine zb fun K kk hK => ?_
   simp only [go_sem]
   refine hK _ _ fun nx => ?_; clear hK K; try clear kk
   refine zk ?_; refine nmx ?_
   obtain hR := Option.some.inj hh
   subst hR
   exact zy
  ·rw [if_neg h3] at hh
   replace h3 := Bool.eq_false_iff.mpr h3
   refine zb fun K kk hK => ?_
   simp only [go_sem, h3]
   (repeat refine sd ?_)
   refine hK _ _ fun nx => ?_; clear hK K; try clear kk
   by_cases h4 : (decide (r_3.Offset > (0 : Int))) = true
   ·rw [if_pos h4] at hh
    refine zm (by first | exact congrArg PV.bool h4 | rfl) ?_
    refine zb fun K kk hK => ?_
    simp only [go_sem]
    refine hK _ _ fun nx => ?_; clear hK K; try clear kk
    refine zk ?_; refine nmx ?_
    obtain hR := Option.some.inj hh
    subst hR
    exact zy
   ·rw [if_neg h4] at hh
    replace h4 := Bool.eq_false_iff.mpr h4
    refine zi (by first | exact congrArg PV.bool h4 | rfl) ?_
    refine zt ?_; refine nmx ?_
    obtain ⟨auB, h5, hh⟩ := zf hh
    obtain ⟨l_6, h6, hh⟩ := zf hh
    obtain ⟨h6a, h6c⟩ := zW h6
    have h6d := qM (f := (PV.int .i64)) h6c
    have h6e := qL h6c
    try simp only [List.length_cons, List.length_nil, Nat.zero_add, Nat.reduceAdd] at h6a h6e
    try simp only [h6e] at h6a
    try simp only [List.map_cons, List.map_nil, List.nil_append, List.append_nil, List.cons_append, List.singleton_append, zo, pvE] at h6d
    refine zb fun K kk hK => ?_
    simp only [go_sem, h6a, h6d, h6e]
    (repeat refine sd ?_)
    refine Xt [] (by decide) (by decide) (aat _ _ h5) (by (try simp only [go_sem, h6a, h6d, h6e, h1, h3, h4]) <;> exact wkb) (by rfl) (by rfl) ?_
    simp only [go_sem, h6a, h6d, h6e]
    (repeat refine sd ?_)
    refine hK _ _ fun nx => ?_; clear hK K; try clear kk
    obtain ⟨⟨r_7, r_8⟩, h7, hh⟩ := zf hh
    dsimp only at hh
    refine zb fun K kk hK => ?_
    simp only [go_sem]
    refine zg (yK _ _ _ h7) (by (try simp only [go_sem]) <;> exact wkl) (by rfl) (by rfl) ?_
    simp only [go_sem]
    refine hK _ _ fun nx => ?_; clear hK K; try clear kk
    refine zb fun K kk hK => ?_
    simp only [go_sem]
    refine hK _ _ fun nx => ?_; clear hK K; try clear kk
    refine zk ?_; refine nmx ?_
    obtain hR := Option.some.inj hh
    subst hR
    exact zy
theorem afI (a_1 : ze) (qW : zx) (R : Bool) (hh : KY a_1 qW = some R) : BC Tryd.prog 77 [.agg [.str a_1.Name, .str a_1.Value], .box 1000 0 0] [.var 39 [.int .u8 qW.Kind, .int .i64 qW.From, .int .i64 qW.To, .list 5 (qW.kG.map za.pv), .str qW.Name, .str qW.Value]] (.bool R) [.var 39 [.int .u8 qW.Kind, .int .i64 qW.From, .int .i64 qW.To, .list 5 (qW.kG.map za.pv), .str qW.Name, .str qW.Value]] := by
 rw [KY] at hh
 refine abB rfl rfl rfl ?_
 refine zb fun K kk hK => ?_
 simp only [go_sem]
 refine hK _ _ fun nx => ?_; clear hK K; try clear kk
 refine zb fun K kk hK => ?_
 simp only [go_sem]
 refine hK _ _ fun nx => ?_; clear hK K; try clear kk
 refine zk ?_; refine nmx ?_
 obtain hR := Option.some.inj hh
 subst hR
 refine vZ ?_ (by rfl) ?_
 ·simp only [go_sem, wI, jU, kP, vY, ZQ, List.map_cons, List.map_append, List.head?_cons]
  all_goals exact wkw
 ·(try simp only [go_sem]); (try simp only [List.length_append, List.map_append]); all_goals exact wkb
theorem Wy (s_1 : (List ze)) (qW : zx) (R : (Int × zx)) (hh : qY s_1 qW = some R) : BC Tryd.prog 76 [.list 2 (s_1.map ze.pv), .fn 77 [.box 1000 0 0]] [.var 39 [.int .u8 qW.Kind, .int .i64 qW.From, .int .i64 qW.To, .list 5 (qW.kG.map za.pv), .str qW.Name, .str qW.Value]] (.int .i64 R.1) [.var 39 [.int .u8 R.2.Kind, .int .i64 R.2.From, .int .i64 R.2.To, .list 5 (R.2.kG.map za.pv), .str R.2.Name, .str R.2.Value]] := by
 rw [qY] at hh
 refine Ql rfl rfl rfl ?_
 refine zb fun K kk hK => ?_
 simp only [go_sem]
 refine hK _ _ fun nx => ?_; clear hK K; try clear kk
 refine zn ?_
 refine zb fun K kk hK => ?_
 simp only [go_sem]
 refine hK _ _ fun nx => ?_; clear hK K; try clear kk
 obtain ⟨e0, f0, hh⟩ := zf hh
 obtain ⟨hlen0, f0⟩ := qf f0
 refine qH (w9 (fun s => .inr () = e0 ∧ ∃ (WA : Int) (WJ : Bool) (nx : Nat), s = ⟨[(0, .list 2 (s_1.map ze.pv)), (1, .fn 77 [.box 1000 0 0]), (7, .int .i64 (s_1.length : Int)), (8, .int .i64 WA), (9, .bool WJ)], [(1000, 0, .var 39 [.int .u8 qW.Kind, .int .i64 qW.From, .int .i64 qW.To, .list 5 (qW.kG.map za.pv), .str qW.Name, .str qW.Value])], nx⟩))
  (fun i s => False)
  (fun s => ∃ wS, .inl wS = e0 ∧ zS Tryd.prog [.tmp 4] (.int .i64 wS.1) [.var 39 [.int .u8 wS.2.Kind, .int .i64 wS.2.From, .int .i64 wS.2.To, .list 5 (wS.2.kG.map za.pv), .str wS.2.Name, .str wS.2.Value]] .ret s) ?_ ?_ ?_ ?_
 ·refine zA ?_
  refine qb fun I hI => ?_
  have key : ∀ (suf pre : List ze) (v_5 : Int), s_1 = pre ++ suf → v_5 = (pre.length : Int) → zV qW suf v_5 = some e0 → ∀ (nx : Nat), I ⟨[(0, .list 2 (s_1.map ze.pv)), (1, .fn 77 [.box 1000 0 0]), (7, .int .i64 (s_1.length : Int)), (8, .int .i64 v_5)], [(1000, 0, .var 39 [.int .u8 qW.Kind, .int .i64 qW.From, .int .i64 qW.To, .list 5 (qW.kG.map za.pv), .str qW.Name, .str qW.Value])], nx⟩ := by
   intro suf
   induction suf with
   | nil =>
    intro pre v_5 hsplit hidx hh nx
    rw [zV] at hh
    refine hI _ ?_
    have h9 := walk_nil hsplit hidx
    refine zb fun K kk hK => ?_
    simp only [go_sem]
    refine hK _ _ fun nx => ?_; clear hK K; try clear kk
    refine zn ?_
    refine zi (by first | exact congrArg PV.bool h9 | rfl) ?_
    refine zU ?_; refine nmx ?_
    refine wU ?_
    refine zG ?_
    refine ⟨(Option.some.inj hh), ?_⟩
    first | exact ⟨_, _, _, rfl⟩ | (simp only [pvE, lsE, zo]; exact ⟨_, _, _, rfl⟩) | (simp only [pvE, lsE, zo, h9]; exact ⟨_, _, _, rfl⟩)
   | cons y_8 suf ih =>
    intro pre v_5 hsplit hidx hh nx
    rw [zV] at hh
    refine hI _ ?_
    obtain ⟨hl0a, hl0b, hl0d, hl0w, h9⟩ := qX (f := ze.pv) hsplit hidx hlen0
    refine zb fun K kk hK => ?_
    simp only [go_sem]
    refine hK _ _ fun nx => ?_; clear hK K; try clear kk
    refine zn ?_
    refine zm (by first | exact congrArg PV.bool h9 | rfl) ?_
    refine zt ?_; refine nmx ?_
    refine zn ?_
    refine zA ?_
    refine zb fun K kk hK => ?_
    simp only [go_sem, hl0a, hl0b, hl0d, hl0w]
    refine hK _ _ fun nx => ?_; clear hK K; try clear kk
    obtain ⟨ave, h10, hh⟩ := zf hh
    refine zb fun K kk hK => ?_
    simp only [go_sem, hl0a, hl0b, hl0d, hl0w]
    refine ZP [1000] (by decide) (afI _ _ _ h10) (by (try simp only [go_sem, hl0a, hl0b, hl0d, hl0w, h9]) <;> exact wkb) (by rfl) ?_
    simp only [go_sem, hl0a, hl0b, hl0d, hl0w]
    refine hK _ _ fun nx => ?_; clear hK K; try clear kk
    by_cases h11 : (ave) = true
    ·rw [if_pos h11] at hh
     refine zm (by first | exact congrArg PV.bool h11 | rfl) ?_
     refine zb fun K kk hK => ?_
     simp only [go_sem, hl0a, hl0b, hl0d, hl0w]
     refine hK _ _ fun nx => ?_; clear hK K; try clear kk
     refine zk ?_; refine nmx ?_
     refine QF ⟨_, (Option.some.inj hh), ?_⟩
     refine vZ ?_ (by rfl) ?_
     ·simp only [go_sem, wI, jU, kP, vY, ZQ, List.map_cons, List.map_append, List.head?_cons, h11, h9]
      all_goals exact wkw
     ·(try simp only [go_sem, h11, h9]); (try simp only [List.length_append, List.map_append]); all_goals exact wkb
    ·rw [if_neg h11] at hh
     replace h11 := Bool.eq_false_iff.mpr h11
     refine zi (by first | exact congrArg PV.bool h11 | rfl) ?_
     refine zt ?_; refine nmx ?_
     refine zq fun K kk hK => ?_
     simp only [go_sem, hl0a, hl0b, hl0d, hl0w]
     refine hK _ _ fun nx => ?_; clear hK K; try clear kk
     refine nmx ?_
     have ih' := ih (pre ++ [y_8]) (v_5 + 1) (by rw [hsplit]; simp) (by simp [hidx]) hh nx
     refine zG ?_
     first | exact ih' | (simp only [pvE, lsE, zo] at ih' ⊢; exact ih') | (simp only [pvE, lsE, zo, h11, h9] at ih' ⊢; exact ih')
  exact key s_1 [] _ rfl rfl f0 _
 ·rintro s ⟨t, hless, rfl, WA, WJ, nx, rfl⟩
  try dsimp only at hh
  refine nmy ?_
  first | (refine wG hless ?_; try refine ku ?_) | refine qP hless ?_ | refine qQ hless ?_
  refine zb fun K kk hK => ?_
  simp only [go_sem]
  refine hK _ _ fun nx => ?_; clear hK K; try clear kk
  refine zk ?_; refine nmx ?_
  obtain hR := Option.some.inj hh
  subst hR
  refine vZ ?_ (by rfl) ?_
  ·simp only [go_sem, wI, jU, kP, vY, ZQ, List.map_cons, List.map_append, List.head?_cons]
   all_goals exact wkw
  ·(try simp only [go_sem]); (try simp only [List.length_append, List.map_append]); all_goals exact wkb
 ·intro i s h; exact h.elim
 ·rintro s ⟨wS, rfl, hb⟩
  try dsimp only at hh
  obtain hR := Option.some.inj hh
  subst hR
  refine nmx ?_
  exact hb
theorem aht : ∀ kr : Nat, (∀ (n_1 : za) (wu : (List Int)) (m_3 : za) (R : (za × Int)), jS kr n_1 wu m_3 = some R → PC Tryd.prog 78 [.agg [.str n_1.Kind, .str n_1.Text, .list 1 (n_1.Marks.map PV.str), .list 2 (n_1.zh.map ze.pv), .list 5 (n_1.Kids.map za.pv)], .list 1 (wu.map (PV.int .i64)), .agg [.str m_3.Kind, .str m_3.Text, .list 1 (m_3.Marks.map PV.str), .list 2 (m_3.zh.map ze.pv), .list 5 (m_3.Kids.map za.pv)]] (.tup [.agg [.str R.1.Kind, .str R.1.Text, .list 1 (R.1.Marks.map PV.str), .list 2 (R.1.zh.map ze.pv), .list 5 (R.1.Kids.map za.pv)], .int .i64 R.2])) := by
 intro kr
 induction kr with
 | zero => exact (by intro n_1 wu m_3 R hh; rw [jS] at hh; cases hh)
 | succ kr ih =>
  have ih_place_With := ih
  clear ih
  intro n_1 wu m_3 R hh
  rw [jS] at hh
  refine ad8 rfl ?_
  refine zb fun K kk hK => ?_
  simp only [go_sem]
  refine hK _ _ fun nx => ?_; clear hK K; try clear kk
  refine zn ?_
  obtain ⟨⟨r_4, r_5⟩, h1, hh⟩ := zf hh
  dsimp only at hh
  refine zb fun K kk hK => ?_
  simp only [go_sem]
  refine zg (yK _ _ _ h1) (by (try simp only [go_sem]) <;> exact wkl) (by rfl) (by rfl) ?_
  simp only [go_sem]
  refine hK _ _ fun nx => ?_; clear hK K; try clear kk
  refine zb fun K kk hK => ?_
  simp only [go_sem]
  refine hK _ _ fun nx => ?_; clear hK K; try clear kk
  by_cases h2 : (r_5 != (0 : Int)) = true
  ·rw [if_pos h2] at hh
   refine zm (by first | exact congrArg PV.bool h2 | rfl) ?_
   refine zb fun K kk hK => ?_
   simp only [go_sem]
   refine hK _ _ fun nx => ?_; clear hK K; try clear kk
   refine zk ?_; refine nmx ?_
   obtain hR := Option.some.inj hh
   subst hR
   exact zy
  ·rw [if_neg h2] at hh
   replace h2 := Bool.eq_false_iff.mpr h2
   refine zi (by first | exact congrArg PV.bool h2 | rfl) ?_
   refine zt ?_; refine nmx ?_
   refine zn ?_
   refine zb fun K kk hK => ?_
   simp only [go_sem]
   refine hK _ _ fun nx => ?_; clear hK K; try clear kk
   by_cases h3 : ((wu.length : Int) == (0 : Int)) = true
   ·rw [if_pos h3] at hh
    refine zm (by first | exact congrArg PV.bool h3 | rfl) ?_
    refine zb fun K kk hK => ?_
    simp only [go_sem]
    refine hK _ _ fun nx => ?_; clear hK K; try clear kk
    refine zk ?_; refine nmx ?_
    obtain hR := Option.some.inj hh
    subst hR
    exact zy
   ·rw [if_neg h3] at hh
    replace h3 := Bool.eq_false_iff.mpr h3
    refine zi (by first | exact congrArg PV.bool h3 | rfl) ?_
    refine zt ?_; refine nmx ?_
    obtain ⟨aog, h4, hh⟩ := zf hh
    refine zb fun K kk hK => ?_
    simp only [go_sem]
    refine zg (vJ _ _ h4) (by (try simp only [go_sem]) <;> exact wkl) (by rfl) (by rfl) ?_
    simp only [go_sem]
    refine hK _ _ fun nx => ?_; clear hK K; try clear kk
    obtain ⟨x_7, h5, hh⟩ := zf hh
    obtain ⟨h5a, h5b, h5c⟩ := rd_some h5
    have h5d := wN (f := (PV.int .i64)) h5c
    have h5f := qG (f := (PV.int .i64)) h5c
    try simp only [Int.toNat_natCast, Int.reduceToNat] at h5d h5f
    obtain ⟨x_8, h6, hh⟩ := zf hh
    obtain ⟨h6a, h6b, h6c⟩ := rd_some h6
    have h6d := wN (f := za.pv) h6c
    have h6f := qG (f := za.pv) h6c
    try simp only [Int.toNat_natCast, Int.reduceToNat] at h6d h6f
    obtain ⟨s_9, h7, hh⟩ := zf hh
    obtain ⟨h7a, h7c⟩ := yn h7
    have h7g := VW h7a
    have h7d := ajR (f := (PV.int .i64)) h7c
    try simp only [Int.toNat_natCast, Int.reduceToNat, List.map_cons, List.map_nil, pvE] at h7d
    obtain ⟨⟨KP, adz⟩, h8, hh⟩ := zf hh
    dsimp only at hh
    obtain ⟨agt, h9, hh⟩ := zf hh
    obtain ⟨h9a, h9c⟩ := XC h9
    have h9d := abY (f := za.pv) h9c
    try simp only [Int.toNat_natCast, Int.reduceToNat, List.map_cons, List.map_nil, List.cons_append, List.nil_append, List.singleton_append, pvE] at h9d
    have h9e := abQ h9c
    have h6b_h9 := h6b; rw [h9e] at h6b_h9
    have h6f1_h9 := h6f.1; rw [h9e] at h6f1_h9
    have h6a_h9 := h6a; try rw [h9e] at h6a_h9
    have h6d_h9 := h6d; try rw [h9e] at h6d_h9
    try rw [h9e] at h9d
    have h9bw := h9a.2; rw [h9e] at h9bw
    refine zb fun K kk hK => ?_
    simp only [go_sem, h5a, h5b, h5d, h5f.1, h5f.2, h6a, h6b, h6d, h6f.1, h6f.2, h7a.1, h7a.2.1, h7a.2.2, h7d, h7g, h9a.1, h9a.2, h9d, h9e, h6b_h9, h6f1_h9, h6a_h9, h6d_h9, h9bw]
    (repeat refine sd ?_)
    refine zg (ih_place_With _ _ _ _ h8) (by (try simp only [go_sem, h5a, h5b, h5d, h5f.1, h5f.2, h6a, h6b, h6d, h6f.1, h6f.2, h7a.1, h7a.2.1, h7a.2.2, h7d, h7g, h9a.1, h9a.2, h9d, h9e, h6b_h9, h6f1_h9, h6a_h9, h6d_h9, h9bw]) <;> exact wkl) (by rfl) (by rfl) ?_
    simp only [go_sem, h5a, h5b, h5d, h5f.1, h5f.2, h6a, h6b, h6d, h6f.1, h6f.2, h7a.1, h7a.2.1, h7a.2.2, h7d, h7g, h9a.1, h9a.2, h9d, h9e, h6b_h9, h6f1_h9, h6a_h9, h6d_h9, h9bw]
    (repeat refine sd ?_)
    try simp only [go_sem, h5a, h5b, h5d, h5f.1, h5f.2, h6a, h6b, h6d, h6f.1, h6f.2, h7a.1, h7a.2.1, h7a.2.2, h7d, h7g, h9a.1, h9a.2, h9d, h9e, h6b_h9, h6f1_h9, h6a_h9, h6d_h9, h9bw]
    refine hK _ _ fun nx => ?_; clear hK K; try clear kk
    refine zb fun K kk hK => ?_
    simp only [go_sem]
    refine hK _ _ fun nx => ?_; clear hK K; try clear kk
    refine zk ?_; refine nmx ?_
    obtain hR := Option.some.inj hh
    subst hR
    exact zy
theorem aaK (n_1 : za) (wu : (List Int)) (m_3 : za) (R : (za × Int)) (hh : Wp n_1 wu m_3 = some R) : PC Tryd.prog 78 [.agg [.str n_1.Kind, .str n_1.Text, .list 1 (n_1.Marks.map PV.str), .list 2 (n_1.zh.map ze.pv), .list 5 (n_1.Kids.map za.pv)], .list 1 (wu.map (PV.int .i64)), .agg [.str m_3.Kind, .str m_3.Text, .list 1 (m_3.Marks.map PV.str), .list 2 (m_3.zh.map ze.pv), .list 5 (m_3.Kids.map za.pv)]] (.tup [.agg [.str R.1.Kind, .str R.1.Text, .list 1 (R.1.Marks.map PV.str), .list 2 (R.1.zh.map ze.pv), .list 5 (R.1.Kids.map za.pv)], .int .i64 R.2]) := by
 rw [Wp] at hh
 obtain ⟨kr, hh⟩ := jH hh
 exact (aht kr) _ _ _ _ hh
theorem amM (n_1 : za) (s_2 : zx) (R : (za × Str × Int)) (hh : yF n_1 s_2 = some R) : PC Tryd.prog 46 [.agg [.str n_1.Kind, .str n_1.Text, .list 1 (n_1.Marks.map PV.str), .list 2 (n_1.zh.map ze.pv), .list 5 (n_1.Kids.map za.pv)], .agg [.int .u8 s_2.Kind, .int .i64 s_2.From, .int .i64 s_2.To, .list 5 (s_2.kG.map za.pv), .str s_2.Name, .str s_2.Value]] (.tup [.agg [.str R.1.Kind, .str R.1.Text, .list 1 (R.1.Marks.map PV.str), .list 2 (R.1.zh.map ze.pv), .list 5 (R.1.Kids.map za.pv)], .str R.2.1, .int .i64 R.2.2]) := by
 rw [yF] at hh
 refine agJ rfl ?_
 refine zb fun K kk hK => ?_
 simp only [go_sem]
 refine hK _ _ fun nx => ?_; clear hK K; try clear kk
 obtain ⟨⟨r_3, r_4⟩, h1, hh⟩ := zf hh
 dsimp only at hh
 refine zb fun K kk hK => ?_
 simp only [go_sem]
 refine zg (ahF _ _ _ h1) (by (try simp only [go_sem]) <;> exact wkl) (by rfl) (by rfl) ?_
 simp only [go_sem]
 refine hK _ _ fun nx => ?_; clear hK K; try clear kk
 refine zn ?_
 refine zb fun K kk hK => ?_
 simp only [go_sem]
 refine hK _ _ fun nx => ?_; clear hK K; try clear kk
 by_cases h2 : (!r_4) = true
 ·rw [if_pos h2] at hh
  refine zm (by first | exact congrArg PV.bool h2 | rfl) ?_
  refine zb fun K kk hK => ?_
  simp only [go_sem]
  refine hK _ _ fun nx => ?_; clear hK K; try clear kk
  refine zk ?_; refine nmx ?_
  obtain hR := Option.some.inj hh
  subst hR
  exact zy
 ·rw [if_neg h2] at hh
  replace h2 := Bool.eq_false_iff.mpr h2
  refine zi (by first | exact congrArg PV.bool h2 | rfl) ?_
  refine zt ?_; refine nmx ?_
  obtain ⟨⟨r_5, r_6⟩, h3, hh⟩ := zf hh
  dsimp only at hh
  refine zb fun K kk hK => ?_
  simp only [go_sem]
  refine zg (yK _ _ _ h3) (by (try simp only [go_sem]) <;> exact wkl) (by rfl) (by rfl) ?_
  simp only [go_sem]
  refine hK _ _ fun nx => ?_; clear hK K; try clear kk
  obtain ⟨⟨r_7, ar2⟩, h4, hh⟩ := zf hh
  dsimp only at hh
  refine zb fun K kk hK => ?_
  simp only [go_sem]
  refine ZP [3] (by decide) (Wy _ _ _ h4) (by (try simp only [go_sem, h2]) <;> exact wkb) (by rfl) ?_
  simp only [go_sem]
  refine hK _ _ fun nx => ?_; clear hK K; try clear kk
  refine zn ?_
  refine zb fun K kk hK => ?_
  simp only [go_sem]
  refine hK _ _ fun nx => ?_; clear hK K; try clear kk
  by_cases h5 : (decide (r_7 < (0 : Int))) = true
  ·rw [if_pos h5] at hh
   refine zm (by first | exact congrArg PV.bool h5 | rfl) ?_
   refine zb fun K kk hK => ?_
   simp only [go_sem]
   refine hK _ _ fun nx => ?_; clear hK K; try clear kk
   refine zk ?_; refine nmx ?_
   obtain hR := Option.some.inj hh
   subst hR
   exact zy
  ·rw [if_neg h5] at hh
   replace h5 := Bool.eq_false_iff.mpr h5
   refine zi (by first | exact congrArg PV.bool h5 | rfl) ?_
   refine zt ?_; refine nmx ?_
   obtain ⟨x_9, h6, hh⟩ := zf hh
   obtain ⟨h6a, h6b, h6c⟩ := rd_some h6
   have h6d := wN (f := ze.pv) h6c
   have h6f := qG (f := ze.pv) h6c
   try simp only [Int.toNat_natCast, Int.reduceToNat] at h6d h6f
   refine zb fun K kk hK => ?_
   simp only [go_sem, h6a, h6b, h6d, h6f.1, h6f.2]
   (repeat refine sd ?_)
   refine hK _ _ fun nx => ?_; clear hK K; try clear kk
   obtain ⟨ajF, h7, hh⟩ := zf hh
   refine zb fun K kk hK => ?_
   simp only [go_sem]
   refine zg (ZB _ _ h7) (by (try simp only [go_sem]) <;> exact wkl) (by rfl) (by rfl) ?_
   simp only [go_sem]
   refine hK _ _ fun nx => ?_; clear hK K; try clear kk
   obtain ⟨acx, h8, hh⟩ := zf hh
   obtain ⟨h8a, h8b, h8c⟩ := rd_some h8
   have h8d := wN (f := ze.pv) h8c
   have h8f := qG (f := ze.pv) h8c
   try simp only [Int.toNat_natCast, Int.reduceToNat] at h8d h8f
   obtain ⟨agt, h9, hh⟩ := zf hh
   obtain ⟨h9a, h9c⟩ := XC h9
   have h9d := abY (f := ze.pv) h9c
   try simp only [Int.toNat_natCast, Int.reduceToNat, List.map_cons, List.map_nil, List.cons_append, List.nil_append, List.singleton_append, pvE] at h9d
   have h9e := abQ h9c
   have h8b_h9 := h8b; rw [h9e] at h8b_h9
   have h8f1_h9 := h8f.1; rw [h9e] at h8f1_h9
   have h8a_h9 := h8a; try rw [h9e] at h8a_h9
   have h8d_h9 := h8d; try rw [h9e] at h8d_h9
   try rw [h9e] at h9d
   have h9bw := h9a.2; rw [h9e] at h9bw
   refine zb fun K kk hK => ?_
   simp only [go_sem, h8a, h8b, h8d, h8f.1, h8f.2, h9a.1, h9a.2, h9d, h9e, h8b_h9, h8f1_h9, h8a_h9, h8d_h9, h9bw]
   (repeat refine sd ?_)
   try simp only [go_sem, h8a, h8b, h8d, h8f.1, h8f.2, h9a.1, h9a.2, h9d, h9e, h8b_h9, h8f1_h9, h8a_h9, h8d_h9, h9bw]
   refine hK _ _ fun nx => ?_; clear hK K; try clear kk
   obtain ⟨⟨afE, ab8⟩, h10, hh⟩ := zf hh
   dsimp only at hh
   refine zb fun K kk hK => ?_
   simp only [go_sem]
   refine zg (aaK _ _ _ _ h10) (by (try simp only [go_sem]) <;> exact wkl) (by rfl) (by rfl) ?_
   simp only [go_sem]
   refine hK _ _ fun nx => ?_; clear hK K; try clear kk
   refine zb fun K kk hK => ?_
   simp only [go_sem]
   refine hK _ _ fun nx => ?_; clear hK K; try clear kk
   refine zk ?_; refine nmx ?_
   obtain hR := Option.some.inj hh
   subst hR
   exact zy
theorem ab3 (s : zx) (marks : (List Str)) (R : ((List Str) × Bool)) (hh : VF s marks = some R) : PC Tryd.prog 112 [.agg [.int .u8 s.Kind, .int .i64 s.From, .int .i64 s.To, .list 5 (s.kG.map za.pv), .str s.Name, .str s.Value], .list 1 (marks.map PV.str)] (.tup [.list 1 (R.1.map PV.str), .bool R.2]) := by
 rw [VF] at hh
 exact aq1 s marks R hh
end Go.Proofs.YtclohbgnaopjfaaDoor
