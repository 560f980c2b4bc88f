/- Texts of the proof of diffChainCard -/
import Derived.Test.YtclohbgnaopjfaaDoorAgC
import Derived.Test.YtclohbgnaopjfaaDoorAgF
import Derived.Test.YtclohbgnaopjfaaDoorAgK0
import Derived.Test.YtclohbgnaopjfaaDoorAgK2
import Derived.Test.YtclohbgnaopjfaaDoorAgK5
import Derived.Test.YtclohbgnaopjfaaDoorAgL
namespace Go.Proofs.YtclohbgnaopjfaaDoor
set_option linter.unusedSimpArgs false
set_option linter.unusedVariables false
open Go
set_option maxRecDepth 100000
theorem Za (n_1 : za) (wE : (List Int)) (R : (za × Int)) (hh : vE n_1 wE = some R) : PC Tryd.prog 75 [.agg [.str n_1.Kind, .str n_1.Text, .list 1 (n_1.Marks.map PV.str), .list 2 (n_1.zh.map ze.pv), .list 5 (n_1.Kids.map za.pv)], .list 1 (wE.map (PV.int .i64))] (.tup [.agg [.str R.1.Kind, .str R.1.Text, .list 1 (R.1.Marks.map PV.str), .list 2 (R.1.zh.map ze.pv), .list 5 (R.1.Kids.map za.pv)], .int .i64 R.2]) := by
 rw [vE] at hh
 refine adk rfl ?_
 refine zb fun K kk hK => ?_
 simp only [go_sem]
 refine hK _ _ fun nx => ?_; clear hK K; try clear kk
 refine zm ?_
 refine zb fun K kk hK => ?_
 simp only [go_sem]
 refine hK _ _ fun nx => ?_; clear hK K; try clear kk
 obtain ⟨e0, f0, hh⟩ := zf hh
 obtain ⟨hlen0, f0⟩ := qf f0
 refine qp (kC (fun s => ∃ YK, .inr YK = e0 ∧ ∃ (KL : Int) (JO : Bool) (nx : Nat) (g2 : Nat) (g4 : Nat), s = ⟨[(2, .box 2 g2 0), (4, .box 4 g4 0), (8, .list 1 (wE.map (PV.int .i64))), (9, .int .i64 (wE.length : Int)), (10, .int .i64 KL), (11, .bool JO)], [(2, g2, .var 28 [.str YK.Kind, .str YK.Text, .list 1 (YK.Marks.map PV.str), .list 2 (YK.zh.map ze.pv), .list 5 (YK.Kids.map za.pv)]), (4, g4, .var 28 [.str ([] : Str), .str ([] : Str), .list 1 ([].map PV.str), .list 2 ([].map ze.pv), .list 5 ([].map za.pv)])], nx⟩))
  (fun i s => False)
  (fun s => ∃ JP, .inl JP = e0 ∧ zS Tryd.prog [.cell 4 28, .tmp 5] (.tup [.agg [.str JP.1.Kind, .str JP.1.Text, .list 1 (JP.1.Marks.map PV.str), .list 2 (JP.1.zh.map ze.pv), .list 5 (JP.1.Kids.map za.pv)], .int .i64 JP.2]) [] .ret s) ?_ ?_ ?_ ?_
 ·refine zA ?_
  refine qd fun I hI => ?_
  have key : ∀ (suf pre : List Int) (v_6 : Int) (n_5 : za), wE = pre ++ suf → v_6 = (pre.length : Int) → qR suf v_6 n_5 = some e0 → ∀ (nx : Nat) (g2 : Nat) (g4 : Nat), I ⟨[(2, .box 2 g2 0), (4, .box 4 g4 0), (8, .list 1 (wE.map (PV.int .i64))), (9, .int .i64 (wE.length : Int)), (10, .int .i64 v_6)], [(2, g2, .var 28 [.str n_5.Kind, .str n_5.Text, .list 1 (n_5.Marks.map PV.str), .list 2 (n_5.zh.map ze.pv), .list 5 (n_5.Kids.map za.pv)]), (4, g4, .var 28 [.str ([] : Str), .str ([] : Str), .list 1 ([].map PV.str), .list 2 ([].map ze.pv), .list 5 ([].map za.pv)])], nx⟩ := by
   intro suf
   induction suf with
   | nil =>
    intro pre v_6 n_5 hsplit hidx hh nx g2 g4
    rw [qR] at hh
    refine hI _ ?_
    have h13 := walk_nil hsplit hidx
    refine zb fun K kk hK => ?_
    simp only [go_sem]
    refine hK _ _ fun nx => ?_; clear hK K; try clear kk
    refine zm ?_
    refine zi (by first | exact congrArg PV.bool h13 | rfl) ?_
    refine zU ?_; refine nmx ?_
    refine wX ?_
    refine zG ?_
    refine ⟨_, (Option.some.inj hh), ?_⟩
    first | exact ⟨_, _, _, _, _, rfl⟩ | (simp only [pvE, lsE, zq]; exact ⟨_, _, _, _, _, rfl⟩) | (simp only [pvE, lsE, zq, h13]; exact ⟨_, _, _, _, _, rfl⟩)
   | cons y_9 suf ih =>
    intro pre v_6 n_5 hsplit hidx hh nx g2 g4
    rw [qR] at hh
    refine hI _ ?_
    obtain ⟨hl0a, hl0b, hl0d, hl0w, h13⟩ := qM (f := (PV.int .i64)) hsplit hidx hlen0
    refine zb fun K kk hK => ?_
    simp only [go_sem]
    refine hK _ _ fun nx => ?_; clear hK K; try clear kk
    refine zm ?_
    refine zn (by first | exact congrArg PV.bool h13 | rfl) ?_
    refine zy ?_; refine nmx ?_
    refine zm ?_
    refine zA ?_
    refine zb fun K kk hK => ?_
    simp only [go_sem, hl0a, hl0b, hl0d, hl0w]
    refine hK _ _ fun nx => ?_; clear hK K; try clear kk
    refine zm ?_
    by_cases h14 : (decide (y_9 < (0 : Int))) = true
    ·rw [if_pos h14] at hh
     refine zb fun K kk hK => ?_
     simp only [go_sem, h14, of_decide_eq_true h14, hl0a, hl0b, hl0d, hl0w]
     (repeat refine sd ?_)
     refine hK _ _ fun nx => ?_; clear hK K; try clear kk
     refine zn rfl ?_
     refine zb fun K kk hK => ?_
     simp only [go_sem, hl0a, hl0b, hl0d, hl0w]
     refine hK _ _ fun nx => ?_; clear hK K; try clear kk
     refine zk ?_; refine nmx ?_
     refine yN ⟨_, (Option.some.inj hh), ?_⟩
     exact zz
    ·rw [if_neg h14] at hh
     replace h14 := Bool.eq_false_iff.mpr h14
     by_cases h15 : (decide (y_9 ≥ (n_5.Kids.length : Int))) = true
     ·rw [if_pos h15] at hh
      refine zb fun K kk hK => ?_
      simp only [go_sem, h14, of_decide_eq_false h14, h15, of_decide_eq_true h15, hl0a, hl0b, hl0d, hl0w]
      (repeat refine sd ?_)
      refine hK _ _ fun nx => ?_; clear hK K; try clear kk
      refine zn rfl ?_
      refine zb fun K kk hK => ?_
      simp only [go_sem, hl0a, hl0b, hl0d, hl0w]
      refine hK _ _ fun nx => ?_; clear hK K; try clear kk
      refine zk ?_; refine nmx ?_
      refine yN ⟨_, (Option.some.inj hh), ?_⟩
      exact zz
     ·rw [if_neg h15] at hh
      replace h15 := Bool.eq_false_iff.mpr h15
      refine zb fun K kk hK => ?_
      simp only [go_sem, h14, of_decide_eq_false h14, h15, of_decide_eq_false h15, hl0a, hl0b, hl0d, hl0w]
      (repeat refine sd ?_)
      refine hK _ _ fun nx => ?_; clear hK K; try clear kk
      by_cases h16 : (n_5.Kind == ([116, 101, 120, 116] : Str)) = true
      ·rw [if_pos h16] at hh
       refine zn (by first | exact congrArg PV.bool h16 | rfl) ?_
       refine zb fun K kk hK => ?_
       simp only [go_sem, hl0a, hl0b, hl0d, hl0w]
       refine hK _ _ fun nx => ?_; clear hK K; try clear kk
       refine zk ?_; refine nmx ?_
       refine yN ⟨_, (Option.some.inj hh), ?_⟩
       exact zz
      ·rw [if_neg h16] at hh
       replace h16 := Bool.eq_false_iff.mpr h16
       refine zi (by first | exact congrArg PV.bool h16 | rfl) ?_
       refine zy ?_; refine nmx ?_
       obtain ⟨aeQ, h17, hh⟩ := zf hh
       obtain ⟨h17a, h17b, h17c⟩ := rd_some h17
       have h17d := kE (f := za.pv) h17c
       have h17f := wo (f := za.pv) h17c
       try simp only [Int.toNat_natCast, Int.reduceToNat] at h17d h17f
       refine zu fun K kk hK => ?_
       simp only [go_sem, h17a, h17b, h17d, h17f.1, h17f.2, hl0a, hl0b, hl0d, hl0w]
       (repeat refine sd ?_)
       refine hK _ _ fun nx => ?_; clear hK K; try clear kk
       refine nmx ?_
       refine zu fun K kk hK => ?_
       simp only [go_sem, hl0a, hl0b, hl0d, hl0w]
       refine hK _ _ fun nx => ?_; clear hK K; try clear kk
       refine nmx ?_
       have ih' := ih (pre ++ [y_9]) (v_6 + 1) _ (by rw [hsplit]; simp) (by simp [hidx]) hh nx
       refine zG ?_
       first | exact ih' _ _ | (simp only [pvE, lsE, zq] at ih' ⊢; exact ih' _ _) | (simp only [pvE, lsE, zq, h13, h14, h15, h16] at ih' ⊢; exact ih' _ _)
  exact key wE [] _ _ rfl rfl f0 _ _ _
 ·rintro s ⟨t, hless, YK, rfl, KL, JO, nx, g2, g4, rfl⟩
  try dsimp only at hh
  refine nmy ?_
  first | (refine wh hless ?_; try refine ku ?_) | refine qD hless ?_ | refine qE hless ?_
  refine zm ?_
  refine zb fun K kk hK => ?_
  simp only [go_sem]
  refine hK _ _ fun nx => ?_; clear hK K; try clear kk
  by_cases h18 : (YK.Kind == ([116, 101, 120, 116] : Str)) = true
  ·rw [if_pos h18] at hh
   refine zn (by first | exact congrArg PV.bool h18 | rfl) ?_
   refine zb fun K kk hK => ?_
   simp only [go_sem]
   refine hK _ _ fun nx => ?_; clear hK K; try clear kk
   refine zk ?_; refine nmx ?_
   obtain hR := Option.some.inj hh
   subst hR
   exact zz
  ·rw [if_neg h18] at hh
   replace h18 := Bool.eq_false_iff.mpr h18
   refine zi (by first | exact congrArg PV.bool h18 | rfl) ?_
   refine zy ?_; refine nmx ?_
   refine zb fun K kk hK => ?_
   simp only [go_sem]
   refine hK _ _ fun nx => ?_; clear hK K; try clear kk
   refine zk ?_; refine nmx ?_
   obtain hR := Option.some.inj hh
   subst hR
   exact zz
 ·intro i s h; exact h.elim
 ·rintro s ⟨JP, rfl, hb⟩
  try dsimp only at hh
  obtain hR := Option.some.inj hh
  subst hR
  refine nmx ?_
  exact hb
theorem Kb (n_1 : za) (Ja : Int) (R : (wG × Int)) (hh : kK n_1 Ja = some R) : PC Tryd.prog 97 [.agg [.str n_1.Kind, .str n_1.Text, .list 1 (n_1.Marks.map PV.str), .list 2 (n_1.zh.map ze.pv), .list 5 (n_1.Kids.map za.pv)], .int .i64 Ja] (.tup [.agg [.list 1 (R.1.Path.map (PV.int .i64)), .int .i64 R.1.Index, .int .i64 R.1.Offset], .int .i64 R.2]) := by
 rw [kK] at hh
 refine abg rfl ?_
 refine zb fun K kk hK => ?_
 simp only [go_sem]
 refine hK _ _ fun nx => ?_; clear hK K; try clear kk
 refine akT ?_
 refine zm ?_
 by_cases h1 : (n_1.Kind == ([116, 101, 120, 116] : Str)) = true
 ·rw [if_pos h1] at hh
  refine zb fun K kk hK => ?_
  simp only [go_sem, h1]
  (repeat refine sd ?_)
  refine hK _ _ fun nx => ?_; clear hK K; try clear kk
  refine zn rfl ?_
  refine zb fun K kk hK => ?_
  simp only [go_sem]
  refine hK _ _ fun nx => ?_; clear hK K; try clear kk
  refine zk ?_; refine nmx ?_
  obtain hR := Option.some.inj hh
  subst hR
  exact zz
 ·rw [if_neg h1] at hh
  replace h1 := Bool.eq_false_iff.mpr h1
  by_cases h2 : (decide (Ja < (0 : Int))) = true
  ·rw [if_pos h2] at hh
   refine zb fun K kk hK => ?_
   simp only [go_sem, h1, h2, of_decide_eq_true h2]
   (repeat refine sd ?_)
   refine hK _ _ fun nx => ?_; clear hK K; try clear kk
   refine zn rfl ?_
   refine zb fun K kk hK => ?_
   simp only [go_sem]
   refine hK _ _ fun nx => ?_; clear hK K; try clear kk
   refine zk ?_; refine nmx ?_
   obtain hR := Option.some.inj hh
   subst hR
   exact zz
  ·rw [if_neg h2] at hh
   replace h2 := Bool.eq_false_iff.mpr h2
   obtain ⟨Wq, h3, hh⟩ := zf hh
   refine zb fun K kk hK => ?_
   simp only [go_sem, h1, h2, of_decide_eq_false h2]
   (repeat refine sd ?_)
   refine zg (jK _ _ h3) (by (try simp only [go_sem, h1, h2, of_decide_eq_false h2]) <;> exact wkl) (by rfl) (by rfl) ?_
   simp only [go_sem, h1, h2, of_decide_eq_false h2]
   (repeat refine sd ?_)
   refine hK _ _ fun nx => ?_; clear hK K; try clear kk
   by_cases h4 : (decide (Ja > Wq)) = true
   ·rw [if_pos h4] at hh
    refine zn (by first | exact congrArg PV.bool h4 | rfl) ?_
    refine zb fun K kk hK => ?_
    simp only [go_sem]
    refine hK _ _ fun nx => ?_; clear hK K; try clear kk
    refine zk ?_; refine nmx ?_
    obtain hR := Option.some.inj hh
    subst hR
    exact zz
   ·rw [if_neg h4] at hh
    replace h4 := Bool.eq_false_iff.mpr h4
    refine zi (by first | exact congrArg PV.bool h4 | rfl) ?_
    refine zy ?_; refine nmx ?_
    refine zb fun K kk hK => ?_
    simp only [go_sem]
    refine hK _ _ fun nx => ?_; clear hK K; try clear kk
    refine zm ?_
    refine akW ?_; refine nmx ?_
    obtain ⟨e0, f0, hh⟩ := zf hh
    refine qp (kC (fun s => False))
     (fun i s => False)
     (fun s => ∃ aau, aau = e0 ∧ zS Tryd.prog [.cell 4 149, .tmp 5] (.tup [.agg [.list 1 (aau.1.Path.map (PV.int .i64)), .int .i64 aau.1.Index, .int .i64 aau.1.Offset], .int .i64 aau.2]) [] .ret s) ?_ ?_ ?_ ?_
    ·refine zA ?_
     refine qd fun I hI => ?_
     obtain ⟨k, f0⟩ := jU f0
     have key : ∀ (k : Nat) (afk : Int) (Wu : za) (YD : (List Int)), kL k afk Wu YD = some e0 → ∀ (nx : Nat) (g2 : Nat) (g4 : Nat) (g6 : Nat) (g342 : Nat), I ⟨[(1, .int .i64 afk), (2, .box 2 g2 0), (4, .box 4 g4 0), (6, .box 6 g6 0)], [(2, g2, .var 28 [.str Wu.Kind, .str Wu.Text, .list 1 (Wu.Marks.map PV.str), .list 2 (Wu.zh.map ze.pv), .list 5 (Wu.Kids.map za.pv)]), (4, g4, .var 149 [.list 1 ([].map (PV.int .i64)), .int .i64 (0 : Int), .int .i64 (0 : Int)]), (6, g6, .var 149 [.row 342 g342 YD.length, .int .i64 (0 : Int), .int .i64 (0 : Int)]), (342, g342, .row false 1 (YD.map (PV.int .i64)))], nx⟩ := by
      intro k
      induction k with
      | zero => intro afk Wu YD hh; rw [kL] at hh; cases hh
      | succ k ih =>
       intro afk Wu YD hh nx g2 g4 g6 g342
       rw [kL] at hh
       refine hI _ ?_
       refine zA ?_
       refine zm ?_
       refine zb fun K kk hK => ?_
       simp only [go_sem]
       refine hK _ _ fun nx => ?_; clear hK K; try clear kk
       obtain ⟨e2, f2, hh⟩ := zf hh
       obtain ⟨hlen2, f2⟩ := qf f2
       refine qp (kC (fun s => .inr (.inr ()) = e2 ∧ ∃ (atX : Int) (ava : Int) (ayJ : Bool) (nx : Nat) (g2 : Nat) (g4 : Nat) (g6 : Nat) (g342 : Nat), s = ⟨[(1, .int .i64 atX), (2, .box 2 g2 0), (4, .box 4 g4 0), (6, .box 6 g6 0), (26, .list 5 (Wu.Kids.map za.pv)), (27, .int .i64 (Wu.Kids.length : Int)), (28, .int .i64 ava), (29, .bool ayJ)], [(2, g2, .var 28 [.str Wu.Kind, .str Wu.Text, .list 1 (Wu.Marks.map PV.str), .list 2 (Wu.zh.map ze.pv), .list 5 (Wu.Kids.map za.pv)]), (4, g4, .var 149 [.list 1 ([].map (PV.int .i64)), .int .i64 (0 : Int), .int .i64 (0 : Int)]), (6, g6, .var 149 [.row 342 g342 YD.length, .int .i64 (0 : Int), .int .i64 (0 : Int)]), (342, g342, .row false 1 (YD.map (PV.int .i64)))], nx⟩))
        (fun i s => (i = 1 ∧ ∃ aiS, ∃ amk, ∃ aar, .inr (.inl (aiS, amk, aar)) = e2 ∧ ∃ (nx : Nat) (g2 : Nat) (g4 : Nat) (g6 : Nat) (g342 : Nat), s = ⟨[(1, .int .i64 aiS), (2, .box 2 g2 0), (4, .box 4 g4 0), (6, .box 6 g6 0)], [(2, g2, .var 28 [.str amk.Kind, .str amk.Text, .list 1 (amk.Marks.map PV.str), .list 2 (amk.zh.map ze.pv), .list 5 (amk.Kids.map za.pv)]), (4, g4, .var 149 [.list 1 ([].map (PV.int .i64)), .int .i64 (0 : Int), .int .i64 (0 : Int)]), (6, g6, .var 149 [.row 342 g342 aar.length, .int .i64 (0 : Int), .int .i64 (0 : Int)]), (342, g342, .row false 1 (aar.map (PV.int .i64)))], nx⟩))
        (fun s => ∃ Y9, .inl Y9 = e2 ∧ zS Tryd.prog [.cell 4 149, .tmp 5] (.tup [.agg [.list 1 (Y9.1.Path.map (PV.int .i64)), .int .i64 Y9.1.Index, .int .i64 Y9.1.Offset], .int .i64 Y9.2]) [] .ret s) ?_ ?_ ?_ ?_
       ·refine zA ?_
        refine qd fun I hI => ?_
        have key : ∀ (suf pre : List za) (acw : Int) (Kg : Int), Wu.Kids = pre ++ suf → acw = (pre.length : Int) → qh YD suf acw Kg = some e2 → ∀ (nx : Nat) (g2 : Nat) (g4 : Nat) (g6 : Nat) (g342 : Nat), I ⟨[(1, .int .i64 Kg), (2, .box 2 g2 0), (4, .box 4 g4 0), (6, .box 6 g6 0), (26, .list 5 (Wu.Kids.map za.pv)), (27, .int .i64 (Wu.Kids.length : Int)), (28, .int .i64 acw)], [(2, g2, .var 28 [.str Wu.Kind, .str Wu.Text, .list 1 (Wu.Marks.map PV.str), .list 2 (Wu.zh.map ze.pv), .list 5 (Wu.Kids.map za.pv)]), (4, g4, .var 149 [.list 1 ([].map (PV.int .i64)), .int .i64 (0 : Int), .int .i64 (0 : Int)]), (6, g6, .var 149 [.row 342 g342 YD.length, .int .i64 (0 : Int), .int .i64 (0 : Int)]), (342, g342, .row false 1 (YD.map (PV.int .i64)))], nx⟩ := by
         intro suf
         induction suf with
         | nil =>
          intro pre acw Kg hsplit hidx hh nx g2 g4 g6 g342
          rw [qh] at hh
          refine hI _ ?_
          have h39 := walk_nil hsplit hidx
          refine zb fun K kk hK => ?_
          simp only [go_sem]
          refine hK _ _ fun nx => ?_; clear hK K; try clear kk
          refine zm ?_
          refine zi (by first | exact congrArg PV.bool h39 | rfl) ?_
          refine zU ?_; refine nmx ?_
          refine wX ?_
          refine zG ?_
          refine ⟨(Option.some.inj hh), ?_⟩
          first | exact ⟨_, _, _, _, _, _, _, _, rfl⟩ | (simp only [pvE, lsE, zq]; exact ⟨_, _, _, _, _, _, _, _, rfl⟩) | (simp only [pvE, lsE, zq, h1, h2, h39, h4]; exact ⟨_, _, _, _, _, _, _, _, rfl⟩)
         | cons asN suf ih =>
          intro pre acw Kg hsplit hidx hh nx g2 g4 g6 g342
          rw [qh] at hh
          refine hI _ ?_
          obtain ⟨hl2a, hl2b, hl2d, hl2w, h39⟩ := qM (f := za.pv) hsplit hidx hlen2
          refine zb fun K kk hK => ?_
          simp only [go_sem]
          refine hK _ _ fun nx => ?_; clear hK K; try clear kk
          refine zm ?_
          refine zn (by first | exact congrArg PV.bool h39 | rfl) ?_
          refine zy ?_; refine nmx ?_
          refine zm ?_
          refine zA ?_
          refine zb fun K kk hK => ?_
          simp only [go_sem, hl2a, hl2b, hl2d, hl2w]
          refine hK _ _ fun nx => ?_; clear hK K; try clear kk
          obtain ⟨ag7, h40, hh⟩ := zf hh
          refine zb fun K kk hK => ?_
          simp only [go_sem, hl2a, hl2b, hl2d, hl2w]
          refine zg (Q7 _ _ h40) (by (try simp only [go_sem, hl2a, hl2b, hl2d, hl2w]) <;> exact wkl) (by rfl) (by rfl) ?_
          simp only [go_sem, hl2a, hl2b, hl2d, hl2w]
          refine hK _ _ fun nx => ?_; clear hK K; try clear kk
          refine zA ?_
          refine zb fun K kk hK => ?_
          simp only [go_sem, hl2a, hl2b, hl2d, hl2w]
          refine hK _ _ fun nx => ?_; clear hK K; try clear kk
          by_cases h41 : (decide (Kg ≥ ag7)) = true
          ·rw [if_pos h41] at hh
           refine zn (by first | exact congrArg PV.bool h41 | rfl) ?_
           refine zu fun K kk hK => ?_
           simp only [go_sem, hl2a, hl2b, hl2d, hl2w]
           refine hK _ _ fun nx => ?_; clear hK K; try clear kk
           refine nmx ?_
           refine zu fun K kk hK => ?_
           simp only [go_sem, hl2a, hl2b, hl2d, hl2w]
           refine hK _ _ fun nx => ?_; clear hK K; try clear kk
           refine nmx ?_
           have ih' := ih (pre ++ [asN]) (acw + 1) _ (by rw [hsplit]; simp) (by simp [hidx]) hh nx
           refine zG ?_
           first | exact ih' _ _ _ _ | (simp only [pvE, lsE, zq] at ih' ⊢; exact ih' _ _ _ _) | (simp only [pvE, lsE, zq, h1, h2, h39, h4, h41] at ih' ⊢; exact ih' _ _ _ _)
          ·rw [if_neg h41] at hh
           replace h41 := Bool.eq_false_iff.mpr h41
           refine zi (by first | exact congrArg PV.bool h41 | rfl) ?_
           refine zb fun K kk hK => ?_
           simp only [go_sem, hl2a, hl2b, hl2d, hl2w]
           refine hK _ _ fun nx => ?_; clear hK K; try clear kk
           by_cases h42 : (asN.Kind == ([116, 101, 120, 116] : Str)) = true
           ·rw [if_pos h42] at hh
            refine zn (by first | exact congrArg PV.bool h42 | rfl) ?_
            refine zb fun K kk hK => ?_
            simp only [go_sem, hl2a, hl2b, hl2d, hl2w]
            refine hK _ _ fun nx => ?_; clear hK K; try clear kk
            refine zb fun K kk hK => ?_
            simp only [go_sem, hl2a, hl2b, hl2d, hl2w]
            refine hK _ _ fun nx => ?_; clear hK K; try clear kk
            refine zk ?_; refine nmx ?_
            refine yN ⟨_, (Option.some.inj hh), ?_⟩
            exact zz
           ·rw [if_neg h42] at hh
            replace h42 := Bool.eq_false_iff.mpr h42
            refine zi (by first | exact congrArg PV.bool h42 | rfl) ?_
            refine zb fun K kk hK => ?_
            simp only [go_sem, hl2a, hl2b, hl2d, hl2w]
            refine hK _ _ fun nx => ?_; clear hK K; try clear kk
            by_cases h43 : (Kg == (0 : Int)) = true
            ·rw [if_pos h43] at hh
             refine zn (by first | exact congrArg PV.bool h43 | rfl) ?_
             refine zb fun K kk hK => ?_
             simp only [go_sem, hl2a, hl2b, hl2d, hl2w]
             refine hK _ _ fun nx => ?_; clear hK K; try clear kk
             refine zb fun K kk hK => ?_
             simp only [go_sem, hl2a, hl2b, hl2d, hl2w]
             refine hK _ _ fun nx => ?_; clear hK K; try clear kk
             refine zk ?_; refine nmx ?_
             refine yN ⟨_, (Option.some.inj hh), ?_⟩
             exact zz
            ·rw [if_neg h43] at hh
             replace h43 := Bool.eq_false_iff.mpr h43
             refine zi (by first | exact congrArg PV.bool h43 | rfl) ?_
             obtain ⟨au3, h44, hh⟩ := zf hh
             obtain ⟨h44a, h44c⟩ := zV h44
             have h44d := qI (f := (PV.int .i64)) h44c
             have h44e := qK h44c
             try simp only [List.length_cons, List.length_nil, Nat.zero_add, Nat.reduceAdd] at h44a h44e
             try simp only [h44e] at h44a
             try simp only [List.map_cons, List.map_nil, List.nil_append, List.append_nil, List.cons_append, List.singleton_append, zq, pvE] at h44d
             refine zb fun K kk hK => ?_
             simp only [go_sem, h44a, h44d, h44e, hl2a, hl2b, hl2d, hl2w]
             (repeat refine sd ?_)
             refine hK _ _ fun nx => ?_; clear hK K; try clear kk
             refine zb fun K kk hK => ?_
             simp only [go_sem, hl2a, hl2b, hl2d, hl2w]
             refine hK _ _ fun nx => ?_; clear hK K; try clear kk
             refine zU ?_; refine nmx ?_
             refine auo ⟨rfl, _, _, _, (Option.some.inj hh), ?_⟩
             first | exact ⟨_, _, _, _, _, rfl⟩ | (simp only [pvE, lsE, zq, h44e]; exact ⟨_, _, _, _, _, rfl⟩) | (simp only [pvE, lsE, zq, h44e, h1, h2, h39, h4, h41, h42, h43]; exact ⟨_, _, _, _, _, rfl⟩)
        exact key Wu.Kids [] _ _ rfl rfl f2 _ _ _ _ _
       ·rintro s ⟨t, hless, rfl, atX, ava, ayJ, nx, g2, g4, g6, g342, rfl⟩
        try dsimp only at hh
        refine nmy ?_
        first | (refine wh hless ?_; try refine ku ?_) | refine qD hless ?_ | refine qE hless ?_
        refine zb fun K kk hK => ?_
        simp only [go_sem]
        refine hK _ _ fun nx => ?_; clear hK K; try clear kk
        refine zb fun K kk hK => ?_
        simp only [go_sem]
        refine hK _ _ fun nx => ?_; clear hK K; try clear kk
        refine zk ?_; refine nmx ?_
        refine yN ⟨_, (Option.some.inj hh), ?_⟩
        exact zz
       ·intro i s h
        obtain ⟨rfl, aiS, amk, aar, rfl, nx, g2, g4, g6, g342, rfl⟩ := h
        try dsimp only at hh
        refine nmx ?_
        have ih' := ih _ _ _ hh nx
        refine zG ?_
        first | exact ih' _ _ _ _ | (simp only [pvE, lsE, zq] at ih' ⊢; exact ih' _ _ _ _) | (simp only [pvE, lsE, zq, h1, h2, h4] at ih' ⊢; exact ih' _ _ _ _)
       ·rintro s ⟨Y9, rfl, hb⟩
        try dsimp only at hh
        refine nmx ?_
        exact yN ⟨_, (Option.some.inj hh), hb⟩
     exact key _ _ _ _ f0 _ _ _ _ _
    ·rintro s ⟨_, _, h⟩; exact h.elim
    ·intro i s h; exact h.elim
    ·rintro s ⟨aau, rfl, hb⟩
     try dsimp only at hh
     obtain hR := Option.some.inj hh
     subst hR
     refine nmx ?_
     exact hb
theorem ais (n_1 : za) (Ja : Int) (R : ((List Int) × Bool)) (hh : ym n_1 Ja = some R) : PC Tryd.prog 74 [.agg [.str n_1.Kind, .str n_1.Text, .list 1 (n_1.Marks.map PV.str), .list 2 (n_1.zh.map ze.pv), .list 5 (n_1.Kids.map za.pv)], .int .i64 Ja] (.tup [.list 1 (R.1.map (PV.int .i64)), .bool R.2]) := by
 rw [ym] at hh
 refine ad7 rfl ?_
 refine zb fun K kk hK => ?_
 simp only [go_sem]
 refine hK _ _ fun nx => ?_; clear hK K; try clear kk
 refine zm ?_
 refine zb fun K kk hK => ?_
 simp only [go_sem]
 refine hK _ _ fun nx => ?_; clear hK K; try clear kk
 by_cases h1 : (Ja == (-1 : Int)) = true
 ·rw [if_pos h1] at hh
  refine zn (by first | exact congrArg PV.bool h1 | rfl) ?_
  refine zb fun K kk hK => ?_
  simp only [go_sem]
  refine hK _ _ fun nx => ?_; clear hK K; try clear kk
  refine zk ?_; refine nmx ?_
  obtain hR := Option.some.inj hh
  subst hR
  exact zz
 ·rw [if_neg h1] at hh
  replace h1 := Bool.eq_false_iff.mpr h1
  refine zi (by first | exact congrArg PV.bool h1 | rfl) ?_
  refine zy ?_; refine nmx ?_
  obtain ⟨⟨r_3, r_4⟩, h2, hh⟩ := zf hh
  dsimp only at hh
  refine zb fun K kk hK => ?_
  simp only [go_sem]
  refine zg (Kb _ _ _ h2) (by (try simp only [go_sem]) <;> exact wkl) (by rfl) (by rfl) ?_
  simp only [go_sem]
  refine hK _ _ fun nx => ?_; clear hK K; try clear kk
  refine zm ?_
  by_cases h3 : (r_4 != (0 : Int)) = true
  ·rw [if_pos h3] at hh
   refine zb fun K kk hK => ?_
   simp only [go_sem, h3]
   (repeat refine sd ?_)
   refine hK _ _ fun nx => ?_; clear hK K; try clear kk
   refine zn rfl ?_
   refine zb fun K kk hK => ?_
   simp only [go_sem]
   refine hK _ _ fun nx => ?_; clear hK K; try clear kk
   refine zk ?_; refine nmx ?_
   obtain hR := Option.some.inj hh
   subst hR
   exact zz
  ·rw [if_neg h3] at hh
   replace h3 := Bool.eq_false_iff.mpr h3
   refine zb fun K kk hK => ?_
   simp only [go_sem, h3]
   (repeat refine sd ?_)
   refine hK _ _ fun nx => ?_; clear hK K; try clear kk
   by_cases h4 : (decide (r_3.Offset > (0 : Int))) = true
   ·rw [if_pos h4] at hh
    refine zn (by first | exact congrArg PV.bool h4 | rfl) ?_
    refine zb fun K kk hK => ?_
    simp only [go_sem]
    refine hK _ _ fun nx => ?_; clear hK K; try clear kk
    refine zk ?_; refine nmx ?_
    obtain hR := Option.some.inj hh
    subst hR
    exact zz
   ·rw [if_neg h4] at hh
    replace h4 := Bool.eq_false_iff.mpr h4
    refine zi (by first | exact congrArg PV.bool h4 | rfl) ?_
    refine zy ?_; refine nmx ?_
    obtain ⟨awW, h5, hh⟩ := zf hh
    obtain ⟨l_6, h6, hh⟩ := zf hh
    obtain ⟨h6a, h6c⟩ := zV h6
    have h6d := qI (f := (PV.int .i64)) h6c
    have h6e := qK h6c
    try simp only [List.length_cons, List.length_nil, Nat.zero_add, Nat.reduceAdd] at h6a h6e
    try simp only [h6e] at h6a
    try simp only [List.map_cons, List.map_nil, List.nil_append, List.append_nil, List.cons_append, List.singleton_append, zq, pvE] at h6d
    refine zb fun K kk hK => ?_
    simp only [go_sem, h6a, h6d, h6e]
    (repeat refine sd ?_)
    refine XO [] (by decide) (by decide) (abl _ _ h5) (by (try simp only [go_sem, h6a, h6d, h6e, h1, h3, h4]) <;> exact wkb) (by rfl) (by rfl) ?_
    simp only [go_sem, h6a, h6d, h6e]
    (repeat refine sd ?_)
    refine hK _ _ fun nx => ?_; clear hK K; try clear kk
    obtain ⟨⟨r_7, r_8⟩, h7, hh⟩ := zf hh
    dsimp only at hh
    refine zb fun K kk hK => ?_
    simp only [go_sem]
    refine zg (Za _ _ _ h7) (by (try simp only [go_sem]) <;> exact wkl) (by rfl) (by rfl) ?_
    simp only [go_sem]
    refine hK _ _ fun nx => ?_; clear hK K; try clear kk
    refine zb fun K kk hK => ?_
    simp only [go_sem]
    refine hK _ _ fun nx => ?_; clear hK K; try clear kk
    refine zk ?_; refine nmx ?_
    obtain hR := Option.some.inj hh
    subst hR
    exact zz
theorem agT (a_1 : ze) (wz : zo) (R : Bool) (hh : Vp a_1 wz = some R) : BC Tryd.prog 77 [.agg [.str a_1.Name, .str a_1.Value], .box 1000 0 0] [.var 39 [.int .u8 wz.Kind, .int .i64 wz.From, .int .i64 wz.To, .list 5 (wz.kF.map za.pv), .str wz.Name, .str wz.Value]] (.bool R) [.var 39 [.int .u8 wz.Kind, .int .i64 wz.From, .int .i64 wz.To, .list 5 (wz.kF.map za.pv), .str wz.Name, .str wz.Value]] := by
 rw [Vp] at hh
 refine acz rfl rfl rfl ?_
 refine zb fun K kk hK => ?_
 simp only [go_sem]
 refine hK _ _ fun nx => ?_; clear hK K; try clear kk
 refine zb fun K kk hK => ?_
 simp only [go_sem]
 refine hK _ _ fun nx => ?_; clear hK K; try clear kk
 refine zk ?_; refine nmx ?_
 obtain hR := Option.some.inj hh
 subst hR
 refine ji ?_ (by rfl) ?_
 ·simp only [go_sem, wR, xE, vg, je, Qb, List.map_cons, List.map_append, List.head?_cons]
  all_goals exact wkw
 ·(try simp only [go_sem]); (try simp only [List.length_append, List.map_append]); all_goals exact wkb
theorem WX (s_1 : (List ze)) (wz : zo) (R : (Int × zo)) (hh : qJ s_1 wz = some R) : BC Tryd.prog 76 [.list 2 (s_1.map ze.pv), .fn 77 [.box 1000 0 0]] [.var 39 [.int .u8 wz.Kind, .int .i64 wz.From, .int .i64 wz.To, .list 5 (wz.kF.map za.pv), .str wz.Name, .str wz.Value]] (.int .i64 R.1) [.var 39 [.int .u8 R.2.Kind, .int .i64 R.2.From, .int .i64 R.2.To, .list 5 (R.2.kF.map za.pv), .str R.2.Name, .str R.2.Value]] := by
 rw [qJ] at hh
 refine QG rfl rfl rfl ?_
 refine zb fun K kk hK => ?_
 simp only [go_sem]
 refine hK _ _ fun nx => ?_; clear hK K; try clear kk
 refine zm ?_
 refine zb fun K kk hK => ?_
 simp only [go_sem]
 refine hK _ _ fun nx => ?_; clear hK K; try clear kk
 obtain ⟨e0, f0, hh⟩ := zf hh
 obtain ⟨hlen0, f0⟩ := qf f0
 refine qp (kC (fun s => .inr () = e0 ∧ ∃ (WU : Int) (KL : Bool) (nx : Nat), s = ⟨[(0, .list 2 (s_1.map ze.pv)), (1, .fn 77 [.box 1000 0 0]), (7, .int .i64 (s_1.length : Int)), (8, .int .i64 WU), (9, .bool KL)], [(1000, 0, .var 39 [.int .u8 wz.Kind, .int .i64 wz.From, .int .i64 wz.To, .list 5 (wz.kF.map za.pv), .str wz.Name, .str wz.Value])], nx⟩))
  (fun i s => False)
  (fun s => ∃ kG, .inl kG = e0 ∧ zS Tryd.prog [.tmp 4] (.int .i64 kG.1) [.var 39 [.int .u8 kG.2.Kind, .int .i64 kG.2.From, .int .i64 kG.2.To, .list 5 (kG.2.kF.map za.pv), .str kG.2.Name, .str kG.2.Value]] .ret s) ?_ ?_ ?_ ?_
 ·refine zA ?_
  refine qd fun I hI => ?_
  have key : ∀ (suf pre : List ze) (v_5 : Int), s_1 = pre ++ suf → v_5 = (pre.length : Int) → zX wz suf v_5 = some e0 → ∀ (nx : Nat), I ⟨[(0, .list 2 (s_1.map ze.pv)), (1, .fn 77 [.box 1000 0 0]), (7, .int .i64 (s_1.length : Int)), (8, .int .i64 v_5)], [(1000, 0, .var 39 [.int .u8 wz.Kind, .int .i64 wz.From, .int .i64 wz.To, .list 5 (wz.kF.map za.pv), .str wz.Name, .str wz.Value])], nx⟩ := by
   intro suf
   induction suf with
   | nil =>
    intro pre v_5 hsplit hidx hh nx
    rw [zX] at hh
    refine hI _ ?_
    have h9 := walk_nil hsplit hidx
    refine zb fun K kk hK => ?_
    simp only [go_sem]
    refine hK _ _ fun nx => ?_; clear hK K; try clear kk
    refine zm ?_
    refine zi (by first | exact congrArg PV.bool h9 | rfl) ?_
    refine zU ?_; refine nmx ?_
    refine wX ?_
    refine zG ?_
    refine ⟨(Option.some.inj hh), ?_⟩
    first | exact ⟨_, _, _, rfl⟩ | (simp only [pvE, lsE, zq]; exact ⟨_, _, _, rfl⟩) | (simp only [pvE, lsE, zq, h9]; exact ⟨_, _, _, rfl⟩)
   | cons y_8 suf ih =>
    intro pre v_5 hsplit hidx hh nx
    rw [zX] at hh
    refine hI _ ?_
    obtain ⟨hl0a, hl0b, hl0d, hl0w, h9⟩ := qM (f := ze.pv) hsplit hidx hlen0
    refine zb fun K kk hK => ?_
    simp only [go_sem]
    refine hK _ _ fun nx => ?_; clear hK K; try clear kk
    refine zm ?_
    refine zn (by first | exact congrArg PV.bool h9 | rfl) ?_
    refine zy ?_; refine nmx ?_
    refine zm ?_
    refine zA ?_
    refine zb fun K kk hK => ?_
    simp only [go_sem, hl0a, hl0b, hl0d, hl0w]
    refine hK _ _ fun nx => ?_; clear hK K; try clear kk
    obtain ⟨axr, h10, hh⟩ := zf hh
    refine zb fun K kk hK => ?_
    simp only [go_sem, hl0a, hl0b, hl0d, hl0w]
    refine Qc [1000] (by decide) (agT _ _ _ h10) (by (try simp only [go_sem, hl0a, hl0b, hl0d, hl0w, h9]) <;> exact wkb) (by rfl) ?_
    simp only [go_sem, hl0a, hl0b, hl0d, hl0w]
    refine hK _ _ fun nx => ?_; clear hK K; try clear kk
    by_cases h11 : (axr) = true
    ·rw [if_pos h11] at hh
     refine zn (by first | exact congrArg PV.bool h11 | rfl) ?_
     refine zb fun K kk hK => ?_
     simp only [go_sem, hl0a, hl0b, hl0d, hl0w]
     refine hK _ _ fun nx => ?_; clear hK K; try clear kk
     refine zk ?_; refine nmx ?_
     refine yN ⟨_, (Option.some.inj hh), ?_⟩
     refine ji ?_ (by rfl) ?_
     ·simp only [go_sem, wR, xE, vg, je, Qb, List.map_cons, List.map_append, List.head?_cons, h11, h9]
      all_goals exact wkw
     ·(try simp only [go_sem, h11, h9]); (try simp only [List.length_append, List.map_append]); all_goals exact wkb
    ·rw [if_neg h11] at hh
     replace h11 := Bool.eq_false_iff.mpr h11
     refine zi (by first | exact congrArg PV.bool h11 | rfl) ?_
     refine zy ?_; refine nmx ?_
     refine zu fun K kk hK => ?_
     simp only [go_sem, hl0a, hl0b, hl0d, hl0w]
     refine hK _ _ fun nx => ?_; clear hK K; try clear kk
     refine nmx ?_
     have ih' := ih (pre ++ [y_8]) (v_5 + 1) (by rw [hsplit]; simp) (by simp [hidx]) hh nx
     refine zG ?_
     first | exact ih' | (simp only [pvE, lsE, zq] at ih' ⊢; exact ih') | (simp only [pvE, lsE, zq, h11, h9] at ih' ⊢; exact ih')
  exact key s_1 [] _ rfl rfl f0 _
 ·rintro s ⟨t, hless, rfl, WU, KL, nx, rfl⟩
  try dsimp only at hh
  refine nmy ?_
  first | (refine wh hless ?_; try refine ku ?_) | refine qD hless ?_ | refine qE hless ?_
  refine zb fun K kk hK => ?_
  simp only [go_sem]
  refine hK _ _ fun nx => ?_; clear hK K; try clear kk
  refine zk ?_; refine nmx ?_
  obtain hR := Option.some.inj hh
  subst hR
  refine ji ?_ (by rfl) ?_
  ·simp only [go_sem, wR, xE, vg, je, Qb, List.map_cons, List.map_append, List.head?_cons]
   all_goals exact wkw
  ·(try simp only [go_sem]); (try simp only [List.length_append, List.map_append]); all_goals exact wkb
 ·intro i s h; exact h.elim
 ·rintro s ⟨kG, rfl, hb⟩
  try dsimp only at hh
  obtain hR := Option.some.inj hh
  subst hR
  refine nmx ?_
  exact hb
theorem aiy : ∀ kr : Nat, (∀ (n_1 : za) (wE : (List Int)) (m_3 : za) (R : (za × Int)), xH kr n_1 wE m_3 = some R → PC Tryd.prog 78 [.agg [.str n_1.Kind, .str n_1.Text, .list 1 (n_1.Marks.map PV.str), .list 2 (n_1.zh.map ze.pv), .list 5 (n_1.Kids.map za.pv)], .list 1 (wE.map (PV.int .i64)), .agg [.str m_3.Kind, .str m_3.Text, .list 1 (m_3.Marks.map PV.str), .list 2 (m_3.zh.map ze.pv), .list 5 (m_3.Kids.map za.pv)]] (.tup [.agg [.str R.1.Kind, .str R.1.Text, .list 1 (R.1.Marks.map PV.str), .list 2 (R.1.zh.map ze.pv), .list 5 (R.1.Kids.map za.pv)], .int .i64 R.2])) := by
 intro kr
 induction kr with
 | zero => exact (by intro n_1 wE m_3 R hh; rw [xH] at hh; cases hh)
 | succ kr ih =>
  have ih_place_With := ih
  clear ih
  intro n_1 wE m_3 R hh
  rw [xH] at hh
  refine aeX rfl ?_
  refine zb fun K kk hK => ?_
  simp only [go_sem]
  refine hK _ _ fun nx => ?_; clear hK K; try clear kk
  refine zm ?_
  obtain ⟨⟨r_4, r_5⟩, h1, hh⟩ := zf hh
  dsimp only at hh
  refine zb fun K kk hK => ?_
  simp only [go_sem]
  refine zg (Za _ _ _ h1) (by (try simp only [go_sem]) <;> exact wkl) (by rfl) (by rfl) ?_
  simp only [go_sem]
  refine hK _ _ fun nx => ?_; clear hK K; try clear kk
  refine zb fun K kk hK => ?_
  simp only [go_sem]
  refine hK _ _ fun nx => ?_; clear hK K; try clear kk
  by_cases h2 : (r_5 != (0 : Int)) = true
  ·rw [if_pos h2] at hh
   refine zn (by first | exact congrArg PV.bool h2 | rfl) ?_
   refine zb fun K kk hK => ?_
   simp only [go_sem]
   refine hK _ _ fun nx => ?_; clear hK K; try clear kk
   refine zk ?_; refine nmx ?_
   obtain hR := Option.some.inj hh
   subst hR
   exact zz
  ·rw [if_neg h2] at hh
   replace h2 := Bool.eq_false_iff.mpr h2
   refine zi (by first | exact congrArg PV.bool h2 | rfl) ?_
   refine zy ?_; refine nmx ?_
   refine zm ?_
   refine zb fun K kk hK => ?_
   simp only [go_sem]
   refine hK _ _ fun nx => ?_; clear hK K; try clear kk
   by_cases h3 : ((wE.length : Int) == (0 : Int)) = true
   ·rw [if_pos h3] at hh
    refine zn (by first | exact congrArg PV.bool h3 | rfl) ?_
    refine zb fun K kk hK => ?_
    simp only [go_sem]
    refine hK _ _ fun nx => ?_; clear hK K; try clear kk
    refine zk ?_; refine nmx ?_
    obtain hR := Option.some.inj hh
    subst hR
    exact zz
   ·rw [if_neg h3] at hh
    replace h3 := Bool.eq_false_iff.mpr h3
    refine zi (by first | exact congrArg PV.bool h3 | rfl) ?_
    refine zy ?_; refine nmx ?_
    obtain ⟨apk, h4, hh⟩ := zf hh
    refine zb fun K kk hK => ?_
    simp only [go_sem]
    refine zg (vN _ _ h4) (by (try simp only [go_sem]) <;> exact wkl) (by rfl) (by rfl) ?_
    simp only [go_sem]
    refine hK _ _ fun nx => ?_; clear hK K; try clear kk
    obtain ⟨x_7, h5, hh⟩ := zf hh
    obtain ⟨h5a, h5b, h5c⟩ := rd_some h5
    have h5d := kE (f := (PV.int .i64)) h5c
    have h5f := wo (f := (PV.int .i64)) h5c
    try simp only [Int.toNat_natCast, Int.reduceToNat] at h5d h5f
    obtain ⟨x_8, h6, hh⟩ := zf hh
    obtain ⟨h6a, h6b, h6c⟩ := rd_some h6
    have h6d := kE (f := za.pv) h6c
    have h6f := wo (f := za.pv) h6c
    try simp only [Int.toNat_natCast, Int.reduceToNat] at h6d h6f
    obtain ⟨s_9, h7, hh⟩ := zf hh
    obtain ⟨h7a, h7c⟩ := yP h7
    have h7g := Jn h7a
    have h7d := alI (f := (PV.int .i64)) h7c
    try simp only [Int.toNat_natCast, Int.reduceToNat, List.map_cons, List.map_nil, pvE] at h7d
    obtain ⟨⟨VZ, YH⟩, h8, hh⟩ := zf hh
    dsimp only at hh
    obtain ⟨ahU, h9, hh⟩ := zf hh
    obtain ⟨h9a, h9c⟩ := XY h9
    have h9d := acR (f := za.pv) h9c
    try simp only [Int.toNat_natCast, Int.reduceToNat, List.map_cons, List.map_nil, List.cons_append, List.nil_append, List.singleton_append, pvE] at h9d
    have h9e := acN h9c
    have h6b_h9 := h6b; rw [h9e] at h6b_h9
    have h6f1_h9 := h6f.1; rw [h9e] at h6f1_h9
    have h6a_h9 := h6a; try rw [h9e] at h6a_h9
    have h6d_h9 := h6d; try rw [h9e] at h6d_h9
    try rw [h9e] at h9d
    have h9bw := h9a.2; rw [h9e] at h9bw
    refine zb fun K kk hK => ?_
    simp only [go_sem, h5a, h5b, h5d, h5f.1, h5f.2, h6a, h6b, h6d, h6f.1, h6f.2, h7a.1, h7a.2.1, h7a.2.2, h7d, h7g, h9a.1, h9a.2, h9d, h9e, h6b_h9, h6f1_h9, h6a_h9, h6d_h9, h9bw]
    (repeat refine sd ?_)
    refine zg (ih_place_With _ _ _ _ h8) (by (try simp only [go_sem, h5a, h5b, h5d, h5f.1, h5f.2, h6a, h6b, h6d, h6f.1, h6f.2, h7a.1, h7a.2.1, h7a.2.2, h7d, h7g, h9a.1, h9a.2, h9d, h9e, h6b_h9, h6f1_h9, h6a_h9, h6d_h9, h9bw]) <;> exact wkl) (by rfl) (by rfl) ?_
    simp only [go_sem, h5a, h5b, h5d, h5f.1, h5f.2, h6a, h6b, h6d, h6f.1, h6f.2, h7a.1, h7a.2.1, h7a.2.2, h7d, h7g, h9a.1, h9a.2, h9d, h9e, h6b_h9, h6f1_h9, h6a_h9, h6d_h9, h9bw]
    (repeat refine sd ?_)
    try simp only [go_sem, h5a, h5b, h5d, h5f.1, h5f.2, h6a, h6b, h6d, h6f.1, h6f.2, h7a.1, h7a.2.1, h7a.2.2, h7d, h7g, h9a.1, h9a.2, h9d, h9e, h6b_h9, h6f1_h9, h6a_h9, h6d_h9, h9bw]
    refine hK _ _ fun nx => ?_; clear hK K; try clear kk
    refine zb fun K kk hK => ?_
    simp only [go_sem]
    refine hK _ _ fun nx => ?_; clear hK K; try clear kk
    refine zk ?_; refine nmx ?_
    obtain hR := Option.some.inj hh
    subst hR
    exact zz
theorem abK (n_1 : za) (wE : (List Int)) (m_3 : za) (R : (za × Int)) (hh : Ke n_1 wE m_3 = some R) : PC Tryd.prog 78 [.agg [.str n_1.Kind, .str n_1.Text, .list 1 (n_1.Marks.map PV.str), .list 2 (n_1.zh.map ze.pv), .list 5 (n_1.Kids.map za.pv)], .list 1 (wE.map (PV.int .i64)), .agg [.str m_3.Kind, .str m_3.Text, .list 1 (m_3.Marks.map PV.str), .list 2 (m_3.zh.map ze.pv), .list 5 (m_3.Kids.map za.pv)]] (.tup [.agg [.str R.1.Kind, .str R.1.Text, .list 1 (R.1.Marks.map PV.str), .list 2 (R.1.zh.map ze.pv), .list 5 (R.1.Kids.map za.pv)], .int .i64 R.2]) := by
 rw [Ke] at hh
 obtain ⟨kr, hh⟩ := jU hh
 exact (aiy kr) _ _ _ _ hh
theorem agi (n_1 : za) (s_2 : zo) (R : (za × Str × Int)) (hh : jS n_1 s_2 = some R) : PC Tryd.prog 46 [.agg [.str n_1.Kind, .str n_1.Text, .list 1 (n_1.Marks.map PV.str), .list 2 (n_1.zh.map ze.pv), .list 5 (n_1.Kids.map za.pv)], .agg [.int .u8 s_2.Kind, .int .i64 s_2.From, .int .i64 s_2.To, .list 5 (s_2.kF.map za.pv), .str s_2.Name, .str s_2.Value]] (.tup [.agg [.str R.1.Kind, .str R.1.Text, .list 1 (R.1.Marks.map PV.str), .list 2 (R.1.zh.map ze.pv), .list 5 (R.1.Kids.map za.pv)], .str R.2.1, .int .i64 R.2.2]) := by
 rw [jS] at hh
 refine aiT rfl ?_
 refine zb fun K kk hK => ?_
 simp only [go_sem]
 refine hK _ _ fun nx => ?_; clear hK K; try clear kk
 obtain ⟨⟨r_3, r_4⟩, h1, hh⟩ := zf hh
 dsimp only at hh
 refine zb fun K kk hK => ?_
 simp only [go_sem]
 refine zg (ais _ _ _ h1) (by (try simp only [go_sem]) <;> exact wkl) (by rfl) (by rfl) ?_
 simp only [go_sem]
 refine hK _ _ fun nx => ?_; clear hK K; try clear kk
 refine zm ?_
 refine zb fun K kk hK => ?_
 simp only [go_sem]
 refine hK _ _ fun nx => ?_; clear hK K; try clear kk
 by_cases h2 : (!r_4) = true
 ·rw [if_pos h2] at hh
  refine zn (by first | exact congrArg PV.bool h2 | rfl) ?_
  refine zb fun K kk hK => ?_
  simp only [go_sem]
  refine hK _ _ fun nx => ?_; clear hK K; try clear kk
  refine zk ?_; refine nmx ?_
  obtain hR := Option.some.inj hh
  subst hR
  exact zz
 ·rw [if_neg h2] at hh
  replace h2 := Bool.eq_false_iff.mpr h2
  refine zi (by first | exact congrArg PV.bool h2 | rfl) ?_
  refine zy ?_; refine nmx ?_
  obtain ⟨⟨r_5, r_6⟩, h3, hh⟩ := zf hh
  dsimp only at hh
  refine zb fun K kk hK => ?_
  simp only [go_sem]
  refine zg (Za _ _ _ h3) (by (try simp only [go_sem]) <;> exact wkl) (by rfl) (by rfl) ?_
  simp only [go_sem]
  refine hK _ _ fun nx => ?_; clear hK K; try clear kk
  obtain ⟨⟨r_7, atu⟩, h4, hh⟩ := zf hh
  dsimp only at hh
  refine zb fun K kk hK => ?_
  simp only [go_sem]
  refine Qc [3] (by decide) (WX _ _ _ h4) (by (try simp only [go_sem, h2]) <;> exact wkb) (by rfl) ?_
  simp only [go_sem]
  refine hK _ _ fun nx => ?_; clear hK K; try clear kk
  refine zm ?_
  refine zb fun K kk hK => ?_
  simp only [go_sem]
  refine hK _ _ fun nx => ?_; clear hK K; try clear kk
  by_cases h5 : (decide (r_7 < (0 : Int))) = true
  ·rw [if_pos h5] at hh
   refine zn (by first | exact congrArg PV.bool h5 | rfl) ?_
   refine zb fun K kk hK => ?_
   simp only [go_sem]
   refine hK _ _ fun nx => ?_; clear hK K; try clear kk
   refine zk ?_; refine nmx ?_
   obtain hR := Option.some.inj hh
   subst hR
   exact zz
  ·rw [if_neg h5] at hh
   replace h5 := Bool.eq_false_iff.mpr h5
   refine zi (by first | exact congrArg PV.bool h5 | rfl) ?_
   refine zy ?_; refine nmx ?_
   obtain ⟨x_9, h6, hh⟩ := zf hh
   obtain ⟨h6a, h6b, h6c⟩ := rd_some h6
   have h6d := kE (f := ze.pv) h6c
   have h6f := wo (f := ze.pv) h6c
   try simp only [Int.toNat_natCast, Int.reduceToNat] at h6d h6f
   refine zb fun K kk hK => ?_
   simp only [go_sem, h6a, h6b, h6d, h6f.1, h6f.2]
   (repeat refine sd ?_)
   refine hK _ _ fun nx => ?_; clear hK K; try clear kk
   obtain ⟨ald, h7, hh⟩ := zf hh
   refine zb fun K kk hK => ?_
   simp only [go_sem]
   refine zg (ZU _ _ h7) (by (try simp only [go_sem]) <;> exact wkl) (by rfl) (by rfl) ?_
   simp only [go_sem]
   refine hK _ _ fun nx => ?_; clear hK K; try clear kk
   obtain ⟨aey, h8, hh⟩ := zf hh
   obtain ⟨h8a, h8b, h8c⟩ := rd_some h8
   have h8d := kE (f := ze.pv) h8c
   have h8f := wo (f := ze.pv) h8c
   try simp only [Int.toNat_natCast, Int.reduceToNat] at h8d h8f
   obtain ⟨ahU, h9, hh⟩ := zf hh
   obtain ⟨h9a, h9c⟩ := XY h9
   have h9d := acR (f := ze.pv) h9c
   try simp only [Int.toNat_natCast, Int.reduceToNat, List.map_cons, List.map_nil, List.cons_append, List.nil_append, List.singleton_append, pvE] at h9d
   have h9e := acN h9c
   have h8b_h9 := h8b; rw [h9e] at h8b_h9
   have h8f1_h9 := h8f.1; rw [h9e] at h8f1_h9
   have h8a_h9 := h8a; try rw [h9e] at h8a_h9
   have h8d_h9 := h8d; try rw [h9e] at h8d_h9
   try rw [h9e] at h9d
   have h9bw := h9a.2; rw [h9e] at h9bw
   refine zb fun K kk hK => ?_
   simp only [go_sem, h8a, h8b, h8d, h8f.1, h8f.2, h9a.1, h9a.2, h9d, h9e, h8b_h9, h8f1_h9, h8a_h9, h8d_h9, h9bw]
   (repeat refine sd ?_)
   try simp only [go_sem, h8a, h8b, h8d, h8f.1, h8f.2, h9a.1, h9a.2, h9d, h9e, h8b_h9, h8f1_h9, h8a_h9, h8d_h9, h9bw]
   refine hK _ _ fun nx => ?_; clear hK K; try clear kk
   obtain ⟨⟨YM, ale⟩, h10, hh⟩ := zf hh
   dsimp only at hh
   refine zb fun K kk hK => ?_
   simp only [go_sem]
   refine zg (abK _ _ _ _ h10) (by (try simp only [go_sem]) <;> exact wkl) (by rfl) (by rfl) ?_
   simp only [go_sem]
   refine hK _ _ fun nx => ?_; clear hK K; try clear kk
   refine zb fun K kk hK => ?_
   simp only [go_sem]
   refine hK _ _ fun nx => ?_; clear hK K; try clear kk
   refine zk ?_; refine nmx ?_
   obtain hR := Option.some.inj hh
   subst hR
   exact zz
theorem aeb (s : zo) (marks : (List Str)) (R : ((List Str) × Bool)) (hh : QQ s marks = some R) : PC Tryd.prog 112 [.agg [.int .u8 s.Kind, .int .i64 s.From, .int .i64 s.To, .list 5 (s.kF.map za.pv), .str s.Name, .str s.Value], .list 1 (marks.map PV.str)] (.tup [.list 1 (R.1.map PV.str), .bool R.2]) := by
 rw [QQ] at hh
 exact atr s marks R hh
end Go.Proofs.YtclohbgnaopjfaaDoor
