/- Texts of the proof of diffMakesCard -/
import Derived.Test.YtclohbgnaopjfaaDoorAgC
import Derived.Test.YtclohbgnaopjfaaDoorAgF
import Derived.Test.YtclohbgnaopjfaaDoorAgK0
import Derived.Test.YtclohbgnaopjfaaDoorAgK2
import Derived.Test.YtclohbgnaopjfaaDoorAgK5
import Derived.Test.YtclohbgnaopjfaaDoorAgL
namespace Go.Proofs.YtclohbgnaopjfaaDoor
set_option linter.unusedSimpArgs false
set_option linter.unusedVariables false
open Go
set_option maxRecDepth 100000
theorem y5 (n_1 : za) (wI : (List Int)) (R : (za × Int)) (hh : vC n_1 wI = some R) : PC Tryd.prog 75 [.agg [.str n_1.Kind, .str n_1.Text, .list 1 (n_1.Marks.map PV.str), .list 2 (n_1.zh.map ze.pv), .list 5 (n_1.Kids.map za.pv)], .list 1 (wI.map (PV.int .i64))] (.tup [.agg [.str R.1.Kind, .str R.1.Text, .list 1 (R.1.Marks.map PV.str), .list 2 (R.1.zh.map ze.pv), .list 5 (R.1.Kids.map za.pv)], .int .i64 R.2]) := by
 rw [vC] at hh
 refine acX rfl ?_
 refine zb fun K kk hK => ?_
 simp only [go_sem]
 refine hK _ _ fun nx => ?_; clear hK K; try clear kk
 refine zm ?_
 refine zb fun K kk hK => ?_
 simp only [go_sem]
 refine hK _ _ fun nx => ?_; clear hK K; try clear kk
 obtain ⟨e0, f0, hh⟩ := zf hh
 obtain ⟨hlen0, f0⟩ := qo f0
 refine qD (kE (fun s => ∃ yz, .inr yz = e0 ∧ ∃ (Kn : Int) (JI : Bool) (nx : Nat) (g2 : Nat) (g4 : Nat), s = ⟨[(2, .box 2 g2 0), (4, .box 4 g4 0), (8, .list 1 (wI.map (PV.int .i64))), (9, .int .i64 (wI.length : Int)), (10, .int .i64 Kn), (11, .bool JI)], [(2, g2, .var 28 [.str yz.Kind, .str yz.Text, .list 1 (yz.Marks.map PV.str), .list 2 (yz.zh.map ze.pv), .list 5 (yz.Kids.map za.pv)]), (4, g4, .var 28 [.str ([] : Str), .str ([] : Str), .list 1 ([].map PV.str), .list 2 ([].map ze.pv), .list 5 ([].map za.pv)])], nx⟩))
  (fun i s => False)
  (fun s => ∃ JX, .inl JX = e0 ∧ zW Tryd.prog [.cell 4 28, .tmp 5] (.tup [.agg [.str JX.1.Kind, .str JX.1.Text, .list 1 (JX.1.Marks.map PV.str), .list 2 (JX.1.zh.map ze.pv), .list 5 (JX.1.Kids.map za.pv)], .int .i64 JX.2]) [] .ret s) ?_ ?_ ?_ ?_
 ·refine zC ?_
  refine qg fun I hI => ?_
  have key : ∀ (suf pre : List Int) (v_6 : Int) (n_5 : za), wI = pre ++ suf → v_6 = (pre.length : Int) → qQ suf v_6 n_5 = some e0 → ∀ (nx : Nat) (g2 : Nat) (g4 : Nat), I ⟨[(2, .box 2 g2 0), (4, .box 4 g4 0), (8, .list 1 (wI.map (PV.int .i64))), (9, .int .i64 (wI.length : Int)), (10, .int .i64 v_6)], [(2, g2, .var 28 [.str n_5.Kind, .str n_5.Text, .list 1 (n_5.Marks.map PV.str), .list 2 (n_5.zh.map ze.pv), .list 5 (n_5.Kids.map za.pv)]), (4, g4, .var 28 [.str ([] : Str), .str ([] : Str), .list 1 ([].map PV.str), .list 2 ([].map ze.pv), .list 5 ([].map za.pv)])], nx⟩ := by
   intro suf
   induction suf with
   | nil =>
    intro pre v_6 n_5 hsplit hidx hh nx g2 g4
    rw [qQ] at hh
    refine hI _ ?_
    have h13 := walk_nil hsplit hidx
    refine zb fun K kk hK => ?_
    simp only [go_sem]
    refine hK _ _ fun nx => ?_; clear hK K; try clear kk
    refine zm ?_
    refine zi (by first | exact congrArg PV.bool h13 | rfl) ?_
    refine zU ?_; refine nmx ?_
    refine wJ ?_
    refine zG ?_
    refine ⟨_, (Option.some.inj hh), ?_⟩
    first | exact ⟨_, _, _, _, _, rfl⟩ | (simp only [pvE, lsE, zo]; exact ⟨_, _, _, _, _, rfl⟩) | (simp only [pvE, lsE, zo, h13]; exact ⟨_, _, _, _, _, rfl⟩)
   | cons y_9 suf ih =>
    intro pre v_6 n_5 hsplit hidx hh nx g2 g4
    rw [qQ] at hh
    refine hI _ ?_
    obtain ⟨hl0a, hl0b, hl0d, hl0w, h13⟩ := qZ (f := (PV.int .i64)) hsplit hidx hlen0
    refine zb fun K kk hK => ?_
    simp only [go_sem]
    refine hK _ _ fun nx => ?_; clear hK K; try clear kk
    refine zm ?_
    refine zn (by first | exact congrArg PV.bool h13 | rfl) ?_
    refine zy ?_; refine nmx ?_
    refine zm ?_
    refine zC ?_
    refine zb fun K kk hK => ?_
    simp only [go_sem, hl0a, hl0b, hl0d, hl0w]
    refine hK _ _ fun nx => ?_; clear hK K; try clear kk
    refine zm ?_
    by_cases h14 : (decide (y_9 < (0 : Int))) = true
    ·rw [if_pos h14] at hh
     refine zb fun K kk hK => ?_
     simp only [go_sem, h14, of_decide_eq_true h14, hl0a, hl0b, hl0d, hl0w]
     (repeat refine sd ?_)
     refine hK _ _ fun nx => ?_; clear hK K; try clear kk
     refine zn rfl ?_
     refine zb fun K kk hK => ?_
     simp only [go_sem, hl0a, hl0b, hl0d, hl0w]
     refine hK _ _ fun nx => ?_; clear hK K; try clear kk
     refine zk ?_; refine nmx ?_
     refine Qn ⟨_, (Option.some.inj hh), ?_⟩
     exact zz
    ·rw [if_neg h14] at hh
     replace h14 := Bool.eq_false_iff.mpr h14
     by_cases h15 : (decide (y_9 ≥ (n_5.Kids.length : Int))) = true
     ·rw [if_pos h15] at hh
      refine zb fun K kk hK => ?_
      simp only [go_sem, h14, of_decide_eq_false h14, h15, of_decide_eq_true h15, hl0a, hl0b, hl0d, hl0w]
      (repeat refine sd ?_)
      refine hK _ _ fun nx => ?_; clear hK K; try clear kk
      refine zn rfl ?_
      refine zb fun K kk hK => ?_
      simp only [go_sem, hl0a, hl0b, hl0d, hl0w]
      refine hK _ _ fun nx => ?_; clear hK K; try clear kk
      refine zk ?_; refine nmx ?_
      refine Qn ⟨_, (Option.some.inj hh), ?_⟩
      exact zz
     ·rw [if_neg h15] at hh
      replace h15 := Bool.eq_false_iff.mpr h15
      refine zb fun K kk hK => ?_
      simp only [go_sem, h14, of_decide_eq_false h14, h15, of_decide_eq_false h15, hl0a, hl0b, hl0d, hl0w]
      (repeat refine sd ?_)
      refine hK _ _ fun nx => ?_; clear hK K; try clear kk
      by_cases h16 : (n_5.Kind == ([116, 101, 120, 116] : Str)) = true
      ·rw [if_pos h16] at hh
       refine zn (by first | exact congrArg PV.bool h16 | rfl) ?_
       refine zb fun K kk hK => ?_
       simp only [go_sem, hl0a, hl0b, hl0d, hl0w]
       refine hK _ _ fun nx => ?_; clear hK K; try clear kk
       refine zk ?_; refine nmx ?_
       refine Qn ⟨_, (Option.some.inj hh), ?_⟩
       exact zz
      ·rw [if_neg h16] at hh
       replace h16 := Bool.eq_false_iff.mpr h16
       refine zi (by first | exact congrArg PV.bool h16 | rfl) ?_
       refine zy ?_; refine nmx ?_
       obtain ⟨aeQ, h17, hh⟩ := zf hh
       obtain ⟨h17a, h17b, h17c⟩ := rd_some h17
       have h17d := wR (f := za.pv) h17c
       have h17f := qM (f := za.pv) h17c
       try simp only [Int.toNat_natCast, Int.reduceToNat] at h17d h17f
       refine zq fun K kk hK => ?_
       simp only [go_sem, h17a, h17b, h17d, h17f.1, h17f.2, hl0a, hl0b, hl0d, hl0w]
       (repeat refine sd ?_)
       refine hK _ _ fun nx => ?_; clear hK K; try clear kk
       refine nmx ?_
       refine zq fun K kk hK => ?_
       simp only [go_sem, hl0a, hl0b, hl0d, hl0w]
       refine hK _ _ fun nx => ?_; clear hK K; try clear kk
       refine nmx ?_
       have ih' := ih (pre ++ [y_9]) (v_6 + 1) _ (by rw [hsplit]; simp) (by simp [hidx]) hh nx
       refine zG ?_
       first | exact ih' _ _ | (simp only [pvE, lsE, zo] at ih' ⊢; exact ih' _ _) | (simp only [pvE, lsE, zo, h13, h14, h15, h16] at ih' ⊢; exact ih' _ _)
  exact key wI [] _ _ rfl rfl f0 _ _ _
 ·rintro s ⟨t, hless, yz, rfl, Kn, JI, nx, g2, g4, rfl⟩
  try dsimp only at hh
  refine nmy ?_
  first | (refine wB hless ?_; try refine kC ?_) | refine qK hless ?_ | refine qI hless ?_
  refine zm ?_
  refine zb fun K kk hK => ?_
  simp only [go_sem]
  refine hK _ _ fun nx => ?_; clear hK K; try clear kk
  by_cases h18 : (yz.Kind == ([116, 101, 120, 116] : Str)) = true
  ·rw [if_pos h18] at hh
   refine zn (by first | exact congrArg PV.bool h18 | rfl) ?_
   refine zb fun K kk hK => ?_
   simp only [go_sem]
   refine hK _ _ fun nx => ?_; clear hK K; try clear kk
   refine zk ?_; refine nmx ?_
   obtain hR := Option.some.inj hh
   subst hR
   exact zz
  ·rw [if_neg h18] at hh
   replace h18 := Bool.eq_false_iff.mpr h18
   refine zi (by first | exact congrArg PV.bool h18 | rfl) ?_
   refine zy ?_; refine nmx ?_
   refine zb fun K kk hK => ?_
   simp only [go_sem]
   refine hK _ _ fun nx => ?_; clear hK K; try clear kk
   refine zk ?_; refine nmx ?_
   obtain hR := Option.some.inj hh
   subst hR
   exact zz
 ·intro i s h; exact h.elim
 ·rintro s ⟨JX, rfl, hb⟩
  try dsimp only at hh
  obtain hR := Option.some.inj hh
  subst hR
  refine nmx ?_
  exact hb
theorem WU (n_1 : za) (Jd : Int) (R : (wE × Int)) (hh : kH n_1 Jd = some R) : PC Tryd.prog 97 [.agg [.str n_1.Kind, .str n_1.Text, .list 1 (n_1.Marks.map PV.str), .list 2 (n_1.zh.map ze.pv), .list 5 (n_1.Kids.map za.pv)], .int .i64 Jd] (.tup [.agg [.list 1 (R.1.Path.map (PV.int .i64)), .int .i64 R.1.Index, .int .i64 R.1.Offset], .int .i64 R.2]) := by
 rw [kH] at hh
 refine aa6 rfl ?_
 refine zb fun K kk hK => ?_
 simp only [go_sem]
 refine hK _ _ fun nx => ?_; clear hK K; try clear kk
 refine aj5 ?_
 refine zm ?_
 by_cases h1 : (n_1.Kind == ([116, 101, 120, 116] : Str)) = true
 ·rw [if_pos h1] at hh
  refine zb fun K kk hK => ?_
  simp only [go_sem, h1]
  (repeat refine sd ?_)
  refine hK _ _ fun nx => ?_; clear hK K; try clear kk
  refine zn rfl ?_
  refine zb fun K kk hK => ?_
  simp only [go_sem]
  refine hK _ _ fun nx => ?_; clear hK K; try clear kk
  refine zk ?_; refine nmx ?_
  obtain hR := Option.some.inj hh
  subst hR
  exact zz
 ·rw [if_neg h1] at hh
  replace h1 := Bool.eq_false_iff.mpr h1
  by_cases h2 : (decide (Jd < (0 : Int))) = true
  ·rw [if_pos h2] at hh
   refine zb fun K kk hK => ?_
   simp only [go_sem, h1, h2, of_decide_eq_true h2]
   (repeat refine sd ?_)
   refine hK _ _ fun nx => ?_; clear hK K; try clear kk
   refine zn rfl ?_
   refine zb fun K kk hK => ?_
   simp only [go_sem]
   refine hK _ _ fun nx => ?_; clear hK K; try clear kk
   refine zk ?_; refine nmx ?_
   obtain hR := Option.some.inj hh
   subst hR
   exact zz
  ·rw [if_neg h2] at hh
   replace h2 := Bool.eq_false_iff.mpr h2
   obtain ⟨QJ, h3, hh⟩ := zf hh
   refine zb fun K kk hK => ?_
   simp only [go_sem, h1, h2, of_decide_eq_false h2]
   (repeat refine sd ?_)
   refine zg (jM _ _ h3) (by (try simp only [go_sem, h1, h2, of_decide_eq_false h2]) <;> exact wkl) (by rfl) (by rfl) ?_
   simp only [go_sem, h1, h2, of_decide_eq_false h2]
   (repeat refine sd ?_)
   refine hK _ _ fun nx => ?_; clear hK K; try clear kk
   by_cases h4 : (decide (Jd > QJ)) = true
   ·rw [if_pos h4] at hh
    refine zn (by first | exact congrArg PV.bool h4 | rfl) ?_
    refine zb fun K kk hK => ?_
    simp only [go_sem]
    refine hK _ _ fun nx => ?_; clear hK K; try clear kk
    refine zk ?_; refine nmx ?_
    obtain hR := Option.some.inj hh
    subst hR
    exact zz
   ·rw [if_neg h4] at hh
    replace h4 := Bool.eq_false_iff.mpr h4
    refine zi (by first | exact congrArg PV.bool h4 | rfl) ?_
    refine zy ?_; refine nmx ?_
    refine zb fun K kk hK => ?_
    simp only [go_sem]
    refine hK _ _ fun nx => ?_; clear hK K; try clear kk
    refine zm ?_
    refine akq ?_; refine nmx ?_
    obtain ⟨e0, f0, hh⟩ := zf hh
    refine qD (kE (fun s => False))
     (fun i s => False)
     (fun s => ∃ aab, aab = e0 ∧ zW Tryd.prog [.cell 4 149, .tmp 5] (.tup [.agg [.list 1 (aab.1.Path.map (PV.int .i64)), .int .i64 aab.1.Index, .int .i64 aab.1.Offset], .int .i64 aab.2]) [] .ret s) ?_ ?_ ?_ ?_
    ·refine zC ?_
     refine qg fun I hI => ?_
     obtain ⟨k, f0⟩ := jA f0
     have key : ∀ (k : Nat) (afi : Int) (Wu : za) (Yw : (List Int)), kI k afi Wu Yw = some e0 → ∀ (nx : Nat) (g2 : Nat) (g4 : Nat) (g6 : Nat) (g342 : Nat), I ⟨[(1, .int .i64 afi), (2, .box 2 g2 0), (4, .box 4 g4 0), (6, .box 6 g6 0)], [(2, g2, .var 28 [.str Wu.Kind, .str Wu.Text, .list 1 (Wu.Marks.map PV.str), .list 2 (Wu.zh.map ze.pv), .list 5 (Wu.Kids.map za.pv)]), (4, g4, .var 149 [.list 1 ([].map (PV.int .i64)), .int .i64 (0 : Int), .int .i64 (0 : Int)]), (6, g6, .var 149 [.row 342 g342 Yw.length, .int .i64 (0 : Int), .int .i64 (0 : Int)]), (342, g342, .row false 1 (Yw.map (PV.int .i64)))], nx⟩ := by
      intro k
      induction k with
      | zero => intro afi Wu Yw hh; rw [kI] at hh; cases hh
      | succ k ih =>
       intro afi Wu Yw hh nx g2 g4 g6 g342
       rw [kI] at hh
       refine hI _ ?_
       refine zC ?_
       refine zm ?_
       refine zb fun K kk hK => ?_
       simp only [go_sem]
       refine hK _ _ fun nx => ?_; clear hK K; try clear kk
       obtain ⟨e2, f2, hh⟩ := zf hh
       obtain ⟨hlen2, f2⟩ := qo f2
       refine qD (kE (fun s => .inr (.inr ()) = e2 ∧ ∃ (auL : Int) (atC : Int) (axF : Bool) (nx : Nat) (g2 : Nat) (g4 : Nat) (g6 : Nat) (g342 : Nat), s = ⟨[(1, .int .i64 auL), (2, .box 2 g2 0), (4, .box 4 g4 0), (6, .box 6 g6 0), (26, .list 5 (Wu.Kids.map za.pv)), (27, .int .i64 (Wu.Kids.length : Int)), (28, .int .i64 atC), (29, .bool axF)], [(2, g2, .var 28 [.str Wu.Kind, .str Wu.Text, .list 1 (Wu.Marks.map PV.str), .list 2 (Wu.zh.map ze.pv), .list 5 (Wu.Kids.map za.pv)]), (4, g4, .var 149 [.list 1 ([].map (PV.int .i64)), .int .i64 (0 : Int), .int .i64 (0 : Int)]), (6, g6, .var 149 [.row 342 g342 Yw.length, .int .i64 (0 : Int), .int .i64 (0 : Int)]), (342, g342, .row false 1 (Yw.map (PV.int .i64)))], nx⟩))
        (fun i s => (i = 1 ∧ ∃ ah1, ∃ als, ∃ YC, .inr (.inl (ah1, als, YC)) = e2 ∧ ∃ (nx : Nat) (g2 : Nat) (g4 : Nat) (g6 : Nat) (g342 : Nat), s = ⟨[(1, .int .i64 ah1), (2, .box 2 g2 0), (4, .box 4 g4 0), (6, .box 6 g6 0)], [(2, g2, .var 28 [.str als.Kind, .str als.Text, .list 1 (als.Marks.map PV.str), .list 2 (als.zh.map ze.pv), .list 5 (als.Kids.map za.pv)]), (4, g4, .var 149 [.list 1 ([].map (PV.int .i64)), .int .i64 (0 : Int), .int .i64 (0 : Int)]), (6, g6, .var 149 [.row 342 g342 YC.length, .int .i64 (0 : Int), .int .i64 (0 : Int)]), (342, g342, .row false 1 (YC.map (PV.int .i64)))], nx⟩))
        (fun s => ∃ YZ, .inl YZ = e2 ∧ zW Tryd.prog [.cell 4 149, .tmp 5] (.tup [.agg [.list 1 (YZ.1.Path.map (PV.int .i64)), .int .i64 YZ.1.Index, .int .i64 YZ.1.Offset], .int .i64 YZ.2]) [] .ret s) ?_ ?_ ?_ ?_
       ·refine zC ?_
        refine qg fun I hI => ?_
        have key : ∀ (suf pre : List za) (acj : Int) (WQ : Int), Wu.Kids = pre ++ suf → acj = (pre.length : Int) → qj Yw suf acj WQ = some e2 → ∀ (nx : Nat) (g2 : Nat) (g4 : Nat) (g6 : Nat) (g342 : Nat), I ⟨[(1, .int .i64 WQ), (2, .box 2 g2 0), (4, .box 4 g4 0), (6, .box 6 g6 0), (26, .list 5 (Wu.Kids.map za.pv)), (27, .int .i64 (Wu.Kids.length : Int)), (28, .int .i64 acj)], [(2, g2, .var 28 [.str Wu.Kind, .str Wu.Text, .list 1 (Wu.Marks.map PV.str), .list 2 (Wu.zh.map ze.pv), .list 5 (Wu.Kids.map za.pv)]), (4, g4, .var 149 [.list 1 ([].map (PV.int .i64)), .int .i64 (0 : Int), .int .i64 (0 : Int)]), (6, g6, .var 149 [.row 342 g342 Yw.length, .int .i64 (0 : Int), .int .i64 (0 : Int)]), (342, g342, .row false 1 (Yw.map (PV.int .i64)))], nx⟩ := by
         intro suf
         induction suf with
         | nil =>
          intro pre acj WQ hsplit hidx hh nx g2 g4 g6 g342
          rw [qj] at hh
          refine hI _ ?_
          have h39 := walk_nil hsplit hidx
          refine zb fun K kk hK => ?_
          simp only [go_sem]
          refine hK _ _ fun nx => ?_; clear hK K; try clear kk
          refine zm ?_
          refine zi (by first | exact congrArg PV.bool h39 | rfl) ?_
          refine zU ?_; refine nmx ?_
          refine wJ ?_
          refine zG ?_
          refine ⟨(Option.some.inj hh), ?_⟩
          first | exact ⟨_, _, _, _, _, _, _, _, rfl⟩ | (simp only [pvE, lsE, zo]; exact ⟨_, _, _, _, _, _, _, _, rfl⟩) | (simp only [pvE, lsE, zo, h1, h2, h39, h4]; exact ⟨_, _, _, _, _, _, _, _, rfl⟩)
         | cons arC suf ih =>
          intro pre acj WQ hsplit hidx hh nx g2 g4 g6 g342
          rw [qj] at hh
          refine hI _ ?_
          obtain ⟨hl2a, hl2b, hl2d, hl2w, h39⟩ := qZ (f := za.pv) hsplit hidx hlen2
          refine zb fun K kk hK => ?_
          simp only [go_sem]
          refine hK _ _ fun nx => ?_; clear hK K; try clear kk
          refine zm ?_
          refine zn (by first | exact congrArg PV.bool h39 | rfl) ?_
          refine zy ?_; refine nmx ?_
          refine zm ?_
          refine zC ?_
          refine zb fun K kk hK => ?_
          simp only [go_sem, hl2a, hl2b, hl2d, hl2w]
          refine hK _ _ fun nx => ?_; clear hK K; try clear kk
          obtain ⟨agJ, h40, hh⟩ := zf hh
          refine zb fun K kk hK => ?_
          simp only [go_sem, hl2a, hl2b, hl2d, hl2w]
          refine zg (Wn _ _ h40) (by (try simp only [go_sem, hl2a, hl2b, hl2d, hl2w]) <;> exact wkl) (by rfl) (by rfl) ?_
          simp only [go_sem, hl2a, hl2b, hl2d, hl2w]
          refine hK _ _ fun nx => ?_; clear hK K; try clear kk
          refine zC ?_
          refine zb fun K kk hK => ?_
          simp only [go_sem, hl2a, hl2b, hl2d, hl2w]
          refine hK _ _ fun nx => ?_; clear hK K; try clear kk
          by_cases h41 : (decide (WQ ≥ agJ)) = true
          ·rw [if_pos h41] at hh
           refine zn (by first | exact congrArg PV.bool h41 | rfl) ?_
           refine zq fun K kk hK => ?_
           simp only [go_sem, hl2a, hl2b, hl2d, hl2w]
           refine hK _ _ fun nx => ?_; clear hK K; try clear kk
           refine nmx ?_
           refine zq fun K kk hK => ?_
           simp only [go_sem, hl2a, hl2b, hl2d, hl2w]
           refine hK _ _ fun nx => ?_; clear hK K; try clear kk
           refine nmx ?_
           have ih' := ih (pre ++ [arC]) (acj + 1) _ (by rw [hsplit]; simp) (by simp [hidx]) hh nx
           refine zG ?_
           first | exact ih' _ _ _ _ | (simp only [pvE, lsE, zo] at ih' ⊢; exact ih' _ _ _ _) | (simp only [pvE, lsE, zo, h1, h2, h39, h4, h41] at ih' ⊢; exact ih' _ _ _ _)
          ·rw [if_neg h41] at hh
           replace h41 := Bool.eq_false_iff.mpr h41
           refine zi (by first | exact congrArg PV.bool h41 | rfl) ?_
           refine zb fun K kk hK => ?_
           simp only [go_sem, hl2a, hl2b, hl2d, hl2w]
           refine hK _ _ fun nx => ?_; clear hK K; try clear kk
           by_cases h42 : (arC.Kind == ([116, 101, 120, 116] : Str)) = true
           ·rw [if_pos h42] at hh
            refine zn (by first | exact congrArg PV.bool h42 | rfl) ?_
            refine zb fun K kk hK => ?_
            simp only [go_sem, hl2a, hl2b, hl2d, hl2w]
            refine hK _ _ fun nx => ?_; clear hK K; try clear kk
            refine zb fun K kk hK => ?_
            simp only [go_sem, hl2a, hl2b, hl2d, hl2w]
            refine hK _ _ fun nx => ?_; clear hK K; try clear kk
            refine zk ?_; refine nmx ?_
            refine Qn ⟨_, (Option.some.inj hh), ?_⟩
            exact zz
           ·rw [if_neg h42] at hh
            replace h42 := Bool.eq_false_iff.mpr h42
            refine zi (by first | exact congrArg PV.bool h42 | rfl) ?_
            refine zb fun K kk hK => ?_
            simp only [go_sem, hl2a, hl2b, hl2d, hl2w]
            refine hK _ _ fun nx => ?_; clear hK K; try clear kk
            by_cases h43 : (WQ == (0 : Int)) = true
            ·rw [if_pos h43] at hh
             refine zn (by first | exact congrArg PV.bool h43 | rfl) ?_
             refine zb fun K kk hK => ?_
             simp only [go_sem, hl2a, hl2b, hl2d, hl2w]
             refine hK _ _ fun nx => ?_; clear hK K; try clear kk
             refine zb fun K kk hK => ?_
             simp only [go_sem, hl2a, hl2b, hl2d, hl2w]
             refine hK _ _ fun nx => ?_; clear hK K; try clear kk
             refine zk ?_; refine nmx ?_
             refine Qn ⟨_, (Option.some.inj hh), ?_⟩
             exact zz
            ·rw [if_neg h43] at hh
             replace h43 := Bool.eq_false_iff.mpr h43
             refine zi (by first | exact congrArg PV.bool h43 | rfl) ?_
             obtain ⟨atd, h44, hh⟩ := zf hh
             obtain ⟨h44a, h44c⟩ := zZ h44
             have h44d := qX (f := (PV.int .i64)) h44c
             have h44e := qW h44c
             try simp only [List.length_cons, List.length_nil, Nat.zero_add, Nat.reduceAdd] at h44a h44e
             try simp only [h44e] at h44a
             try simp only [List.map_cons, List.map_nil, List.nil_append, List.append_nil, List.cons_append, List.singleton_append, zo, pvE] at h44d
             refine zb fun K kk hK => ?_
             simp only [go_sem, h44a, h44d, h44e, hl2a, hl2b, hl2d, hl2w]
             (repeat refine sd ?_)
             refine hK _ _ fun nx => ?_; clear hK K; try clear kk
             refine zb fun K kk hK => ?_
             simp only [go_sem, hl2a, hl2b, hl2d, hl2w]
             refine hK _ _ fun nx => ?_; clear hK K; try clear kk
             refine zU ?_; refine nmx ?_
             refine auz ⟨rfl, _, _, _, (Option.some.inj hh), ?_⟩
             first | exact ⟨_, _, _, _, _, rfl⟩ | (simp only [pvE, lsE, zo, h44e]; exact ⟨_, _, _, _, _, rfl⟩) | (simp only [pvE, lsE, zo, h44e, h1, h2, h39, h4, h41, h42, h43]; exact ⟨_, _, _, _, _, rfl⟩)
        exact key Wu.Kids [] _ _ rfl rfl f2 _ _ _ _ _
       ·rintro s ⟨t, hless, rfl, auL, atC, axF, nx, g2, g4, g6, g342, rfl⟩
        try dsimp only at hh
        refine nmy ?_
        first | (refine wB hless ?_; try refine kC ?_) | refine qK hless ?_ | refine qI hless ?_
        refine zb fun K kk hK => ?_
        simp only [go_sem]
        refine hK _ _ fun nx => ?_; clear hK K; try clear kk
        refine zb fun K kk hK => ?_
        simp only [go_sem]
        refine hK _ _ fun nx => ?_; clear hK K; try clear kk
        refine zk ?_; refine nmx ?_
        refine Qn ⟨_, (Option.some.inj hh), ?_⟩
        exact zz
       ·intro i s h
        obtain ⟨rfl, ah1, als, YC, rfl, nx, g2, g4, g6, g342, rfl⟩ := h
        try dsimp only at hh
        refine nmx ?_
        have ih' := ih _ _ _ hh nx
        refine zG ?_
        first | exact ih' _ _ _ _ | (simp only [pvE, lsE, zo] at ih' ⊢; exact ih' _ _ _ _) | (simp only [pvE, lsE, zo, h1, h2, h4] at ih' ⊢; exact ih' _ _ _ _)
       ·rintro s ⟨YZ, rfl, hb⟩
        try dsimp only at hh
        refine nmx ?_
        exact Qn ⟨_, (Option.some.inj hh), hb⟩
     exact key _ _ _ _ f0 _ _ _ _ _
    ·rintro s ⟨_, _, h⟩; exact h.elim
    ·intro i s h; exact h.elim
    ·rintro s ⟨aab, rfl, hb⟩
     try dsimp only at hh
     obtain hR := Option.some.inj hh
     subst hR
     refine nmx ?_
     exact hb
theorem ah6 (n_1 : za) (Jd : Int) (R : ((List Int) × Bool)) (hh : yc n_1 Jd = some R) : PC Tryd.prog 74 [.agg [.str n_1.Kind, .str n_1.Text, .list 1 (n_1.Marks.map PV.str), .list 2 (n_1.zh.map ze.pv), .list 5 (n_1.Kids.map za.pv)], .int .i64 Jd] (.tup [.list 1 (R.1.map (PV.int .i64)), .bool R.2]) := by
 rw [yc] at hh
 refine adb rfl ?_
 refine zb fun K kk hK => ?_
 simp only [go_sem]
 refine hK _ _ fun nx => ?_; clear hK K; try clear kk
 refine zm ?_
 refine zb fun K kk hK => ?_
 simp only [go_sem]
 refine hK _ _ fun nx => ?_; clear hK K; try clear kk
 by_cases h1 : (Jd == (-1 : Int)) = true
 ·rw [if_pos h1] at hh
  refine zn (by first | exact congrArg PV.bool h1 | rfl) ?_
  refine zb fun K kk hK => ?_
  simp only [go_sem]
  refine hK _ _ fun nx => ?_; clear hK K; try clear kk
  refine zk ?_; refine nmx ?_
  obtain hR := Option.some.inj hh
  subst hR
  exact zz
 ·rw [if_neg h1] at hh
  replace h1 := Bool.eq_false_iff.mpr h1
  refine zi (by first | exact congrArg PV.bool h1 | rfl) ?_
  refine zy ?_; refine nmx ?_
  obtain ⟨⟨r_3, r_4⟩, h2, hh⟩ := zf hh
  dsimp only at hh
  refine zb fun K kk hK => ?_
  simp only [go_sem]
  refine zg (WU _ _ _ h2) (by (try simp only [go_sem]) <;> exact wkl) (by rfl) (by rfl) ?_
  simp only [go_sem]
  refine hK _ _ fun nx => ?_; clear hK K; try clear kk
  refine zm ?_
  by_cases h3 : (r_4 != (0 : Int)) = true
  ·rw [if_pos h3] at hh
   refine zb fun K kk hK => ?_
   simp only [go_sem, h3]
   (repeat refine sd ?_)
   refine hK _ _ fun nx => ?_; clear hK K; try clear kk
   refine zn rfl ?_
   refine zb fun K kk hK => ?_
   simp only [go_sem]
   refine hK _ _ fun nx => ?_; clear hK K; try clear kk
   refine zk ?_; refine nmx ?_
   obtain hR := Option.some.inj hh
   subst hR
   exact zz
  ·rw [if_neg h3] at hh
   replace h3 := Bool.eq_false_iff.mpr h3
   refine zb fun K kk hK => ?_
   simp only [go_sem, h3]
   (repeat refine sd ?_)
   refine hK _ _ fun nx => ?_; clear hK K; try clear kk
   by_cases h4 : (decide (r_3.Offset > (0 : Int))) = true
   ·rw [if_pos h4] at hh
    refine zn (by first | exact congrArg PV.bool h4 | rfl) ?_
    refine zb fun K kk hK => ?_
    simp only [go_sem]
    refine hK _ _ fun nx => ?_; clear hK K; try clear kk
    refine zk ?_; refine nmx ?_
    obtain hR := Option.some.inj hh
    subst hR
    exact zz
   ·rw [if_neg h4] at hh
    replace h4 := Bool.eq_false_iff.mpr h4
    refine zi (by first | exact congrArg PV.bool h4 | rfl) ?_
    refine zy ?_; refine nmx ?_
    obtain ⟨av6, h5, hh⟩ := zf hh
    obtain ⟨l_6, h6, hh⟩ := zf hh
    obtain ⟨h6a, h6c⟩ := zZ h6
    have h6d := qX (f := (PV.int .i64)) h6c
    have h6e := qW h6c
    try simp only [List.length_cons, List.length_nil, Nat.zero_add, Nat.reduceAdd] at h6a h6e
    try simp only [h6e] at h6a
    try simp only [List.map_cons, List.map_nil, List.nil_append, List.append_nil, List.cons_append, List.singleton_append, zo, pvE] at h6d
    refine zb fun K kk hK => ?_
    simp only [go_sem, h6a, h6d, h6e]
    (repeat refine sd ?_)
    refine X9 [] (by decide) (by decide) (aa4 _ _ h5) (by (try simp only [go_sem, h6a, h6d, h6e, h1, h3, h4]) <;> exact wkb) (by rfl) (by rfl) ?_
    simp only [go_sem, h6a, h6d, h6e]
    (repeat refine sd ?_)
    refine hK _ _ fun nx => ?_; clear hK K; try clear kk
    obtain ⟨⟨r_7, r_8⟩, h7, hh⟩ := zf hh
    dsimp only at hh
    refine zb fun K kk hK => ?_
    simp only [go_sem]
    refine zg (y5 _ _ _ h7) (by (try simp only [go_sem]) <;> exact wkl) (by rfl) (by rfl) ?_
    simp only [go_sem]
    refine hK _ _ fun nx => ?_; clear hK K; try clear kk
    refine zb fun K kk hK => ?_
    simp only [go_sem]
    refine hK _ _ fun nx => ?_; clear hK K; try clear kk
    refine zk ?_; refine nmx ?_
    obtain hR := Option.some.inj hh
    subst hR
    exact zz
theorem agB (a_1 : ze) (wu : zt) (R : Bool) (hh : Vm a_1 wu = some R) : BC Tryd.prog 77 [.agg [.str a_1.Name, .str a_1.Value], .box 1000 0 0] [.var 39 [.int .u8 wu.Kind, .int .i64 wu.From, .int .i64 wu.To, .list 5 (wu.wO.map za.pv), .str wu.Name, .str wu.Value]] (.bool R) [.var 39 [.int .u8 wu.Kind, .int .i64 wu.From, .int .i64 wu.To, .list 5 (wu.wO.map za.pv), .str wu.Name, .str wu.Value]] := by
 rw [Vm] at hh
 refine acG rfl rfl rfl ?_
 refine zb fun K kk hK => ?_
 simp only [go_sem]
 refine hK _ _ fun nx => ?_; clear hK K; try clear kk
 refine zb fun K kk hK => ?_
 simp only [go_sem]
 refine hK _ _ fun nx => ?_; clear hK K; try clear kk
 refine zk ?_; refine nmx ?_
 obtain hR := Option.some.inj hh
 subst hR
 refine jf ?_ (by rfl) ?_
 ·simp only [go_sem, wT, xy, vg, jk, Qc, List.map_cons, List.map_append, List.head?_cons]
  all_goals exact wkw
 ·(try simp only [go_sem]); (try simp only [List.length_append, List.map_append]); all_goals exact wkb
theorem WS (s_1 : (List ze)) (wu : zt) (R : (Int × zt)) (hh : qF s_1 wu = some R) : BC Tryd.prog 76 [.list 2 (s_1.map ze.pv), .fn 77 [.box 1000 0 0]] [.var 39 [.int .u8 wu.Kind, .int .i64 wu.From, .int .i64 wu.To, .list 5 (wu.wO.map za.pv), .str wu.Name, .str wu.Value]] (.int .i64 R.1) [.var 39 [.int .u8 R.2.Kind, .int .i64 R.2.From, .int .i64 R.2.To, .list 5 (R.2.wO.map za.pv), .str R.2.Name, .str R.2.Value]] := by
 rw [qF] at hh
 refine QI rfl rfl rfl ?_
 refine zb fun K kk hK => ?_
 simp only [go_sem]
 refine hK _ _ fun nx => ?_; clear hK K; try clear kk
 refine zm ?_
 refine zb fun K kk hK => ?_
 simp only [go_sem]
 refine hK _ _ fun nx => ?_; clear hK K; try clear kk
 obtain ⟨e0, f0, hh⟩ := zf hh
 obtain ⟨hlen0, f0⟩ := qo f0
 refine qD (kE (fun s => .inr () = e0 ∧ ∃ (WO : Int) (Kn : Bool) (nx : Nat), s = ⟨[(0, .list 2 (s_1.map ze.pv)), (1, .fn 77 [.box 1000 0 0]), (7, .int .i64 (s_1.length : Int)), (8, .int .i64 WO), (9, .bool Kn)], [(1000, 0, .var 39 [.int .u8 wu.Kind, .int .i64 wu.From, .int .i64 wu.To, .list 5 (wu.wO.map za.pv), .str wu.Name, .str wu.Value])], nx⟩))
  (fun i s => False)
  (fun s => ∃ kD, .inl kD = e0 ∧ zW Tryd.prog [.tmp 4] (.int .i64 kD.1) [.var 39 [.int .u8 kD.2.Kind, .int .i64 kD.2.From, .int .i64 kD.2.To, .list 5 (kD.2.wO.map za.pv), .str kD.2.Name, .str kD.2.Value]] .ret s) ?_ ?_ ?_ ?_
 ·refine zC ?_
  refine qg fun I hI => ?_
  have key : ∀ (suf pre : List ze) (v_5 : Int), s_1 = pre ++ suf → v_5 = (pre.length : Int) → zY wu suf v_5 = some e0 → ∀ (nx : Nat), I ⟨[(0, .list 2 (s_1.map ze.pv)), (1, .fn 77 [.box 1000 0 0]), (7, .int .i64 (s_1.length : Int)), (8, .int .i64 v_5)], [(1000, 0, .var 39 [.int .u8 wu.Kind, .int .i64 wu.From, .int .i64 wu.To, .list 5 (wu.wO.map za.pv), .str wu.Name, .str wu.Value])], nx⟩ := by
   intro suf
   induction suf with
   | nil =>
    intro pre v_5 hsplit hidx hh nx
    rw [zY] at hh
    refine hI _ ?_
    have h9 := walk_nil hsplit hidx
    refine zb fun K kk hK => ?_
    simp only [go_sem]
    refine hK _ _ fun nx => ?_; clear hK K; try clear kk
    refine zm ?_
    refine zi (by first | exact congrArg PV.bool h9 | rfl) ?_
    refine zU ?_; refine nmx ?_
    refine wJ ?_
    refine zG ?_
    refine ⟨(Option.some.inj hh), ?_⟩
    first | exact ⟨_, _, _, rfl⟩ | (simp only [pvE, lsE, zo]; exact ⟨_, _, _, rfl⟩) | (simp only [pvE, lsE, zo, h9]; exact ⟨_, _, _, rfl⟩)
   | cons y_8 suf ih =>
    intro pre v_5 hsplit hidx hh nx
    rw [zY] at hh
    refine hI _ ?_
    obtain ⟨hl0a, hl0b, hl0d, hl0w, h9⟩ := qZ (f := ze.pv) hsplit hidx hlen0
    refine zb fun K kk hK => ?_
    simp only [go_sem]
    refine hK _ _ fun nx => ?_; clear hK K; try clear kk
    refine zm ?_
    refine zn (by first | exact congrArg PV.bool h9 | rfl) ?_
    refine zy ?_; refine nmx ?_
    refine zm ?_
    refine zC ?_
    refine zb fun K kk hK => ?_
    simp only [go_sem, hl0a, hl0b, hl0d, hl0w]
    refine hK _ _ fun nx => ?_; clear hK K; try clear kk
    obtain ⟨awW, h10, hh⟩ := zf hh
    refine zb fun K kk hK => ?_
    simp only [go_sem, hl0a, hl0b, hl0d, hl0w]
    refine Qa [1000] (by decide) (agB _ _ _ h10) (by (try simp only [go_sem, hl0a, hl0b, hl0d, hl0w, h9]) <;> exact wkb) (by rfl) ?_
    simp only [go_sem, hl0a, hl0b, hl0d, hl0w]
    refine hK _ _ fun nx => ?_; clear hK K; try clear kk
    by_cases h11 : (awW) = true
    ·rw [if_pos h11] at hh
     refine zn (by first | exact congrArg PV.bool h11 | rfl) ?_
     refine zb fun K kk hK => ?_
     simp only [go_sem, hl0a, hl0b, hl0d, hl0w]
     refine hK _ _ fun nx => ?_; clear hK K; try clear kk
     refine zk ?_; refine nmx ?_
     refine Qn ⟨_, (Option.some.inj hh), ?_⟩
     refine jf ?_ (by rfl) ?_
     ·simp only [go_sem, wT, xy, vg, jk, Qc, List.map_cons, List.map_append, List.head?_cons, h11, h9]
      all_goals exact wkw
     ·(try simp only [go_sem, h11, h9]); (try simp only [List.length_append, List.map_append]); all_goals exact wkb
    ·rw [if_neg h11] at hh
     replace h11 := Bool.eq_false_iff.mpr h11
     refine zi (by first | exact congrArg PV.bool h11 | rfl) ?_
     refine zy ?_; refine nmx ?_
     refine zq fun K kk hK => ?_
     simp only [go_sem, hl0a, hl0b, hl0d, hl0w]
     refine hK _ _ fun nx => ?_; clear hK K; try clear kk
     refine nmx ?_
     have ih' := ih (pre ++ [y_8]) (v_5 + 1) (by rw [hsplit]; simp) (by simp [hidx]) hh nx
     refine zG ?_
     first | exact ih' | (simp only [pvE, lsE, zo] at ih' ⊢; exact ih') | (simp only [pvE, lsE, zo, h11, h9] at ih' ⊢; exact ih')
  exact key s_1 [] _ rfl rfl f0 _
 ·rintro s ⟨t, hless, rfl, WO, Kn, nx, rfl⟩
  try dsimp only at hh
  refine nmy ?_
  first | (refine wB hless ?_; try refine kC ?_) | refine qK hless ?_ | refine qI hless ?_
  refine zb fun K kk hK => ?_
  simp only [go_sem]
  refine hK _ _ fun nx => ?_; clear hK K; try clear kk
  refine zk ?_; refine nmx ?_
  obtain hR := Option.some.inj hh
  subst hR
  refine jf ?_ (by rfl) ?_
  ·simp only [go_sem, wT, xy, vg, jk, Qc, List.map_cons, List.map_append, List.head?_cons]
   all_goals exact wkw
  ·(try simp only [go_sem]); (try simp only [List.length_append, List.map_append]); all_goals exact wkb
 ·intro i s h; exact h.elim
 ·rintro s ⟨kD, rfl, hb⟩
  try dsimp only at hh
  obtain hR := Option.some.inj hh
  subst hR
  refine nmx ?_
  exact hb
theorem ahk : ∀ kr : Nat, (∀ (n_1 : za) (wI : (List Int)) (m_3 : za) (R : (za × Int)), xB kr n_1 wI m_3 = some R → PC Tryd.prog 78 [.agg [.str n_1.Kind, .str n_1.Text, .list 1 (n_1.Marks.map PV.str), .list 2 (n_1.zh.map ze.pv), .list 5 (n_1.Kids.map za.pv)], .list 1 (wI.map (PV.int .i64)), .agg [.str m_3.Kind, .str m_3.Text, .list 1 (m_3.Marks.map PV.str), .list 2 (m_3.zh.map ze.pv), .list 5 (m_3.Kids.map za.pv)]] (.tup [.agg [.str R.1.Kind, .str R.1.Text, .list 1 (R.1.Marks.map PV.str), .list 2 (R.1.zh.map ze.pv), .list 5 (R.1.Kids.map za.pv)], .int .i64 R.2])) := by
 intro kr
 induction kr with
 | zero => exact (by intro n_1 wI m_3 R hh; rw [xB] at hh; cases hh)
 | succ kr ih =>
  have ih_place_With := ih
  clear ih
  intro n_1 wI m_3 R hh
  rw [xB] at hh
  refine aeP rfl ?_
  refine zb fun K kk hK => ?_
  simp only [go_sem]
  refine hK _ _ fun nx => ?_; clear hK K; try clear kk
  refine zm ?_
  obtain ⟨⟨r_4, r_5⟩, h1, hh⟩ := zf hh
  dsimp only at hh
  refine zb fun K kk hK => ?_
  simp only [go_sem]
  refine zg (y5 _ _ _ h1) (by (try simp only [go_sem]) <;> exact wkl) (by rfl) (by rfl) ?_
  simp only [go_sem]
  refine hK _ _ fun nx => ?_; clear hK K; try clear kk
  refine zb fun K kk hK => ?_
  simp only [go_sem]
  refine hK _ _ fun nx => ?_; clear hK K; try clear kk
  by_cases h2 : (r_5 != (0 : Int)) = true
  ·rw [if_pos h2] at hh
   refine zn (by first | exact congrArg PV.bool h2 | rfl) ?_
   refine zb fun K kk hK => ?_
   simp only [go_sem]
   refine hK _ _ fun nx => ?_; clear hK K; try clear kk
   refine zk ?_; refine nmx ?_
   obtain hR := Option.some.inj hh
   subst hR
   exact zz
  ·rw [if_neg h2] at hh
   replace h2 := Bool.eq_false_iff.mpr h2
   refine zi (by first | exact congrArg PV.bool h2 | rfl) ?_
   refine zy ?_; refine nmx ?_
   refine zm ?_
   refine zb fun K kk hK => ?_
   simp only [go_sem]
   refine hK _ _ fun nx => ?_; clear hK K; try clear kk
   by_cases h3 : ((wI.length : Int) == (0 : Int)) = true
   ·rw [if_pos h3] at hh
    refine zn (by first | exact congrArg PV.bool h3 | rfl) ?_
    refine zb fun K kk hK => ?_
    simp only [go_sem]
    refine hK _ _ fun nx => ?_; clear hK K; try clear kk
    refine zk ?_; refine nmx ?_
    obtain hR := Option.some.inj hh
    subst hR
    exact zz
   ·rw [if_neg h3] at hh
    replace h3 := Bool.eq_false_iff.mpr h3
    refine zi (by first | exact congrArg PV.bool h3 | rfl) ?_
    refine zy ?_; refine nmx ?_
    obtain ⟨aoI, h4, hh⟩ := zf hh
    refine zb fun K kk hK => ?_
    simp only [go_sem]
    refine zg (vN _ _ h4) (by (try simp only [go_sem]) <;> exact wkl) (by rfl) (by rfl) ?_
    simp only [go_sem]
    refine hK _ _ fun nx => ?_; clear hK K; try clear kk
    obtain ⟨x_7, h5, hh⟩ := zf hh
    obtain ⟨h5a, h5b, h5c⟩ := rd_some h5
    have h5d := wR (f := (PV.int .i64)) h5c
    have h5f := qM (f := (PV.int .i64)) h5c
    try simp only [Int.toNat_natCast, Int.reduceToNat] at h5d h5f
    obtain ⟨x_8, h6, hh⟩ := zf hh
    obtain ⟨h6a, h6b, h6c⟩ := rd_some h6
    have h6d := wR (f := za.pv) h6c
    have h6f := qM (f := za.pv) h6c
    try simp only [Int.toNat_natCast, Int.reduceToNat] at h6d h6f
    obtain ⟨s_9, h7, hh⟩ := zf hh
    obtain ⟨h7a, h7c⟩ := yL h7
    have h7g := Ju h7a
    have h7d := ale (f := (PV.int .i64)) h7c
    try simp only [Int.toNat_natCast, Int.reduceToNat, List.map_cons, List.map_nil, pvE] at h7d
    obtain ⟨⟨J2, ac6⟩, h8, hh⟩ := zf hh
    dsimp only at hh
    obtain ⟨aiO, h9, hh⟩ := zf hh
    obtain ⟨h9a, h9c⟩ := XV h9
    have h9d := acr (f := za.pv) h9c
    try simp only [Int.toNat_natCast, Int.reduceToNat, List.map_cons, List.map_nil, List.cons_append, List.nil_append, List.singleton_append, pvE] at h9d
    have h9e := aco h9c
    have h6b_h9 := h6b; rw [h9e] at h6b_h9
    have h6f1_h9 := h6f.1; rw [h9e] at h6f1_h9
    have h6a_h9 := h6a; try rw [h9e] at h6a_h9
    have h6d_h9 := h6d; try rw [h9e] at h6d_h9
    try rw [h9e] at h9d
    have h9bw := h9a.2; rw [h9e] at h9bw
    refine zb fun K kk hK => ?_
    simp only [go_sem, h5a, h5b, h5d, h5f.1, h5f.2, h6a, h6b, h6d, h6f.1, h6f.2, h7a.1, h7a.2.1, h7a.2.2, h7d, h7g, h9a.1, h9a.2, h9d, h9e, h6b_h9, h6f1_h9, h6a_h9, h6d_h9, h9bw]
    (repeat refine sd ?_)
    refine zg (ih_place_With _ _ _ _ h8) (by (try simp only [go_sem, h5a, h5b, h5d, h5f.1, h5f.2, h6a, h6b, h6d, h6f.1, h6f.2, h7a.1, h7a.2.1, h7a.2.2, h7d, h7g, h9a.1, h9a.2, h9d, h9e, h6b_h9, h6f1_h9, h6a_h9, h6d_h9, h9bw]) <;> exact wkl) (by rfl) (by rfl) ?_
    simp only [go_sem, h5a, h5b, h5d, h5f.1, h5f.2, h6a, h6b, h6d, h6f.1, h6f.2, h7a.1, h7a.2.1, h7a.2.2, h7d, h7g, h9a.1, h9a.2, h9d, h9e, h6b_h9, h6f1_h9, h6a_h9, h6d_h9, h9bw]
    (repeat refine sd ?_)
    try simp only [go_sem, h5a, h5b, h5d, h5f.1, h5f.2, h6a, h6b, h6d, h6f.1, h6f.2, h7a.1, h7a.2.1, h7a.2.2, h7d, h7g, h9a.1, h9a.2, h9d, h9e, h6b_h9, h6f1_h9, h6a_h9, h6d_h9, h9bw]
    refine hK _ _ fun nx => ?_; clear hK K; try clear kk
    refine zb fun K kk hK => ?_
    simp only [go_sem]
    refine hK _ _ fun nx => ?_; clear hK K; try clear kk
    refine zk ?_; refine nmx ?_
    obtain hR := Option.some.inj hh
    subst hR
    exact zz
theorem ab6 (n_1 : za) (wI : (List Int)) (m_3 : za) (R : (za × Int)) (hh : Ke n_1 wI m_3 = some R) : PC Tryd.prog 78 [.agg [.str n_1.Kind, .str n_1.Text, .list 1 (n_1.Marks.map PV.str), .list 2 (n_1.zh.map ze.pv), .list 5 (n_1.Kids.map za.pv)], .list 1 (wI.map (PV.int .i64)), .agg [.str m_3.Kind, .str m_3.Text, .list 1 (m_3.Marks.map PV.str), .list 2 (m_3.zh.map ze.pv), .list 5 (m_3.Kids.map za.pv)]] (.tup [.agg [.str R.1.Kind, .str R.1.Text, .list 1 (R.1.Marks.map PV.str), .list 2 (R.1.zh.map ze.pv), .list 5 (R.1.Kids.map za.pv)], .int .i64 R.2]) := by
 rw [Ke] at hh
 obtain ⟨kr, hh⟩ := jA hh
 exact (ahk kr) _ _ _ _ hh
theorem ane (n_1 : za) (s_2 : zt) (R : (za × Str × Int)) (hh : xR n_1 s_2 = some R) : PC Tryd.prog 46 [.agg [.str n_1.Kind, .str n_1.Text, .list 1 (n_1.Marks.map PV.str), .list 2 (n_1.zh.map ze.pv), .list 5 (n_1.Kids.map za.pv)], .agg [.int .u8 s_2.Kind, .int .i64 s_2.From, .int .i64 s_2.To, .list 5 (s_2.wO.map za.pv), .str s_2.Name, .str s_2.Value]] (.tup [.agg [.str R.1.Kind, .str R.1.Text, .list 1 (R.1.Marks.map PV.str), .list 2 (R.1.zh.map ze.pv), .list 5 (R.1.Kids.map za.pv)], .str R.2.1, .int .i64 R.2.2]) := by
 rw [xR] at hh
 refine aiH rfl ?_
 refine zb fun K kk hK => ?_
 simp only [go_sem]
 refine hK _ _ fun nx => ?_; clear hK K; try clear kk
 obtain ⟨⟨r_3, r_4⟩, h1, hh⟩ := zf hh
 dsimp only at hh
 refine zb fun K kk hK => ?_
 simp only [go_sem]
 refine zg (ah6 _ _ _ h1) (by (try simp only [go_sem]) <;> exact wkl) (by rfl) (by rfl) ?_
 simp only [go_sem]
 refine hK _ _ fun nx => ?_; clear hK K; try clear kk
 refine zm ?_
 refine zb fun K kk hK => ?_
 simp only [go_sem]
 refine hK _ _ fun nx => ?_; clear hK K; try clear kk
 by_cases h2 : (!r_4) = true
 ·rw [if_pos h2] at hh
  refine zn (by first | exact congrArg PV.bool h2 | rfl) ?_
  refine zb fun K kk hK => ?_
  simp only [go_sem]
  refine hK _ _ fun nx => ?_; clear hK K; try clear kk
  refine zk ?_; refine nmx ?_
  obtain hR := Option.some.inj hh
  subst hR
  exact zz
 ·rw [if_neg h2] at hh
  replace h2 := Bool.eq_false_iff.mpr h2
  refine zi (by first | exact congrArg PV.bool h2 | rfl) ?_
  refine zy ?_; refine nmx ?_
  obtain ⟨⟨r_5, r_6⟩, h3, hh⟩ := zf hh
  dsimp only at hh
  refine zb fun K kk hK => ?_
  simp only [go_sem]
  refine zg (y5 _ _ _ h3) (by (try simp only [go_sem]) <;> exact wkl) (by rfl) (by rfl) ?_
  simp only [go_sem]
  refine hK _ _ fun nx => ?_; clear hK K; try clear kk
  obtain ⟨⟨r_7, asG⟩, h4, hh⟩ := zf hh
  dsimp only at hh
  refine zb fun K kk hK => ?_
  simp only [go_sem]
  refine Qa [3] (by decide) (WS _ _ _ h4) (by (try simp only [go_sem, h2]) <;> exact wkb) (by rfl) ?_
  simp only [go_sem]
  refine hK _ _ fun nx => ?_; clear hK K; try clear kk
  refine zm ?_
  refine zb fun K kk hK => ?_
  simp only [go_sem]
  refine hK _ _ fun nx => ?_; clear hK K; try clear kk
  by_cases h5 : (decide (r_7 < (0 : Int))) = true
  ·rw [if_pos h5] at hh
   refine zn (by first | exact congrArg PV.bool h5 | rfl) ?_
   refine zb fun K kk hK => ?_
   simp only [go_sem]
   refine hK _ _ fun nx => ?_; clear hK K; try clear kk
   refine zk ?_; refine nmx ?_
   obtain hR := Option.some.inj hh
   subst hR
   exact zz
  ·rw [if_neg h5] at hh
   replace h5 := Bool.eq_false_iff.mpr h5
   refine zi (by first | exact congrArg PV.bool h5 | rfl) ?_
   refine zy ?_; refine nmx ?_
   obtain ⟨x_9, h6, hh⟩ := zf hh
   obtain ⟨h6a, h6b, h6c⟩ := rd_some h6
   have h6d := wR (f := ze.pv) h6c
   have h6f := qM (f := ze.pv) h6c
   try simp only [Int.toNat_natCast, Int.reduceToNat] at h6d h6f
   refine zb fun K kk hK => ?_
   simp only [go_sem, h6a, h6b, h6d, h6f.1, h6f.2]
   (repeat refine sd ?_)
   refine hK _ _ fun nx => ?_; clear hK K; try clear kk
   obtain ⟨ala, h7, hh⟩ := zf hh
   refine zb fun K kk hK => ?_
   simp only [go_sem]
   refine zg (ZV _ _ h7) (by (try simp only [go_sem]) <;> exact wkl) (by rfl) (by rfl) ?_
   simp only [go_sem]
   refine hK _ _ fun nx => ?_; clear hK K; try clear kk
   obtain ⟨adX, h8, hh⟩ := zf hh
   obtain ⟨h8a, h8b, h8c⟩ := rd_some h8
   have h8d := wR (f := ze.pv) h8c
   have h8f := qM (f := ze.pv) h8c
   try simp only [Int.toNat_natCast, Int.reduceToNat] at h8d h8f
   obtain ⟨aiO, h9, hh⟩ := zf hh
   obtain ⟨h9a, h9c⟩ := XV h9
   have h9d := acr (f := ze.pv) h9c
   try simp only [Int.toNat_natCast, Int.reduceToNat, List.map_cons, List.map_nil, List.cons_append, List.nil_append, List.singleton_append, pvE] at h9d
   have h9e := aco h9c
   have h8b_h9 := h8b; rw [h9e] at h8b_h9
   have h8f1_h9 := h8f.1; rw [h9e] at h8f1_h9
   have h8a_h9 := h8a; try rw [h9e] at h8a_h9
   have h8d_h9 := h8d; try rw [h9e] at h8d_h9
   try rw [h9e] at h9d
   have h9bw := h9a.2; rw [h9e] at h9bw
   refine zb fun K kk hK => ?_
   simp only [go_sem, h8a, h8b, h8d, h8f.1, h8f.2, h9a.1, h9a.2, h9d, h9e, h8b_h9, h8f1_h9, h8a_h9, h8d_h9, h9bw]
   (repeat refine sd ?_)
   try simp only [go_sem, h8a, h8b, h8d, h8f.1, h8f.2, h9a.1, h9a.2, h9d, h9e, h8b_h9, h8f1_h9, h8a_h9, h8d_h9, h9bw]
   refine hK _ _ fun nx => ?_; clear hK K; try clear kk
   obtain ⟨⟨aaz, agD⟩, h10, hh⟩ := zf hh
   dsimp only at hh
   refine zb fun K kk hK => ?_
   simp only [go_sem]
   refine zg (ab6 _ _ _ _ h10) (by (try simp only [go_sem]) <;> exact wkl) (by rfl) (by rfl) ?_
   simp only [go_sem]
   refine hK _ _ fun nx => ?_; clear hK K; try clear kk
   refine zb fun K kk hK => ?_
   simp only [go_sem]
   refine hK _ _ fun nx => ?_; clear hK K; try clear kk
   refine zk ?_; refine nmx ?_
   obtain hR := Option.some.inj hh
   subst hR
   exact zz
theorem adB (s : zt) (marks : (List Str)) (R : ((List Str) × Bool)) (hh : Ws s marks = some R) : PC Tryd.prog 112 [.agg [.int .u8 s.Kind, .int .i64 s.From, .int .i64 s.To, .list 5 (s.wO.map za.pv), .str s.Name, .str s.Value], .list 1 (marks.map PV.str)] (.tup [.list 1 (R.1.map PV.str), .bool R.2]) := by
 rw [Ws] at hh
 exact atH s marks R hh
end Go.Proofs.YtclohbgnaopjfaaDoor
