/- Texts of the proof of diffChainCard -/
import Derived.Test.YtclohbgnaopjfaaDoorAgC
import Derived.Test.YtclohbgnaopjfaaDoorAgF
import Derived.Test.YtclohbgnaopjfaaDoorAgK0
import Derived.Test.YtclohbgnaopjfaaDoorAgK2
import Derived.Test.YtclohbgnaopjfaaDoorAgK3
import Derived.Test.YtclohbgnaopjfaaDoorAgK5
import Derived.Test.YtclohbgnaopjfaaDoorAgK6
import Derived.Test.YtclohbgnaopjfaaDoorAgK7
import Derived.Test.YtclohbgnaopjfaaDoorAgK9
namespace Go.Proofs.YtclohbgnaopjfaaDoor
set_option linter.unusedSimpArgs false
set_option linter.unusedVariables false
open Go
set_option maxRecDepth 100000
theorem ams (n_1 : za) (s_2 : zo) (R : ((List zo) × Int)) (hh : jo n_1 s_2 = some R) : PC Tryd.prog 16 [.agg [.str n_1.Kind, .str n_1.Text, .list 1 (n_1.Marks.map PV.str), .list 2 (n_1.zh.map ze.pv), .list 5 (n_1.Kids.map za.pv)], .agg [.int .u8 s_2.Kind, .int .i64 s_2.From, .int .i64 s_2.To, .list 5 (s_2.kF.map za.pv), .str s_2.Name, .str s_2.Value]] (.tup [.list 6 (R.1.map zo.pv), .int .i64 R.2]) := by
 rw [jo] at hh
 refine agB rfl ?_
 refine zb fun K kk hK => ?_
 simp only [go_sem]
 refine hK _ _ fun nx => ?_; clear hK K; try clear kk
 refine zm ?_
 obtain ⟨⟨r_3, r_4⟩, h1, hh⟩ := zf hh
 dsimp only at hh
 refine zb fun K kk hK => ?_
 simp only [go_sem]
 refine zg (JY _ _ _ h1) (by (try simp only [go_sem]) <;> exact wkl) (by rfl) (by rfl) ?_
 simp only [go_sem]
 refine hK _ _ fun nx => ?_; clear hK K; try clear kk
 refine zb fun K kk hK => ?_
 simp only [go_sem]
 refine hK _ _ fun nx => ?_; clear hK K; try clear kk
 by_cases h2 : (r_4 != (0 : Int)) = true
 ·rw [if_pos h2] at hh
  refine zn (by first | exact congrArg PV.bool h2 | rfl) ?_
  refine zb fun K kk hK => ?_
  simp only [go_sem]
  refine hK _ _ fun nx => ?_; clear hK K; try clear kk
  refine zk ?_; refine nmx ?_
  obtain hR := Option.some.inj hh
  subst hR
  exact zz
 ·rw [if_neg h2] at hh
  replace h2 := Bool.eq_false_iff.mpr h2
  refine zi (by first | exact congrArg PV.bool h2 | rfl) ?_
  refine zy ?_; refine nmx ?_
  refine zm ?_
  refine zb fun K kk hK => ?_
  simp only [go_sem]
  refine hK _ _ fun nx => ?_; clear hK K; try clear kk
  refine zA ?_
  refine zb fun K kk hK => ?_
  simp only [go_sem]
  refine hK _ _ fun nx => ?_; clear hK K; try clear kk
  by_cases h3 : (s_2.Kind == (114 : Int)) = true
  ·rw [if_pos h3] at hh
   refine zn (by first | exact congrArg PV.bool h3 | rfl) ?_
   obtain ⟨⟨r_5, r_6⟩, h4, hh⟩ := zf hh
   dsimp only at hh
   refine zb fun K kk hK => ?_
   simp only [go_sem]
   refine zg (alz _ _ _ _ h4) (by (try simp only [go_sem]) <;> exact wkl) (by rfl) (by rfl) ?_
   simp only [go_sem]
   refine hK _ _ fun nx => ?_; clear hK K; try clear kk
   obtain ⟨aqP, h5, hh⟩ := zf hh
   refine zb fun K kk hK => ?_
   simp only [go_sem]
   refine zg (jK _ _ h5) (by (try simp only [go_sem]) <;> exact wkl) (by rfl) (by rfl) ?_
   simp only [go_sem]
   refine hK _ _ fun nx => ?_; clear hK K; try clear kk
   refine zk ?_; refine nmx ?_
   obtain hR := Option.some.inj hh
   subst hR
   exact zz
  ·rw [if_neg h3] at hh
   replace h3 := Bool.eq_false_iff.mpr h3
   refine zi (by first | exact congrArg PV.bool h3 | rfl) ?_
   refine zb fun K kk hK => ?_
   simp only [go_sem]
   refine hK _ _ fun nx => ?_; clear hK K; try clear kk
   by_cases h6 : (s_2.Kind == (97 : Int)) = true
   ·rw [if_pos h6] at hh
    refine zn (by first | exact congrArg PV.bool h6 | rfl) ?_
    obtain ⟨⟨r_8, r_9, VZ⟩, h7, hh⟩ := zf hh
    dsimp only at hh
    refine zb fun K kk hK => ?_
    simp only [go_sem]
    refine zg (agi _ _ _ h7) (by (try simp only [go_sem]) <;> exact wkl) (by rfl) (by rfl) ?_
    simp only [go_sem]
    refine hK _ _ fun nx => ?_; clear hK K; try clear kk
    refine zb fun K kk hK => ?_
    simp only [go_sem]
    refine hK _ _ fun nx => ?_; clear hK K; try clear kk
    refine zk ?_; refine nmx ?_
    obtain hR := Option.some.inj hh
    subst hR
    exact zz
   ·rw [if_neg h6] at hh
    replace h6 := Bool.eq_false_iff.mpr h6
    refine zi (by first | exact congrArg PV.bool h6 | rfl) ?_
    refine zy ?_; refine nmx ?_
    refine zb fun K kk hK => ?_
    simp only [go_sem]
    refine hK _ _ fun nx => ?_; clear hK K; try clear kk
    obtain ⟨⟨YH, VU, YM⟩, h8, hh⟩ := zf hh
    dsimp only at hh
    refine zb fun K kk hK => ?_
    simp only [go_sem]
    refine zg (abD _ _ _ h8) (by (try simp only [go_sem]) <;> exact wkl) (by rfl) (by rfl) ?_
    simp only [go_sem]
    refine hK _ _ fun nx => ?_; clear hK K; try clear kk
    refine zb fun K kk hK => ?_
    simp only [go_sem]
    refine hK _ _ fun nx => ?_; clear hK K; try clear kk
    refine zm ?_
    refine zb fun K kk hK => ?_
    simp only [go_sem]
    refine hK _ _ fun nx => ?_; clear hK K; try clear kk
    obtain ⟨e0, f0, hh⟩ := zf hh
    obtain ⟨hlen0, f0⟩ := qf f0
    refine qp (kC (fun s => ∃ afx, afx = e0 ∧ ∃ (asW : Int) (ayu : Bool) (nx : Nat) (g3 : Nat) (g17 : Nat), s = ⟨[(3, .box 3 g3 0), (13, .int .u8 (IntKind.wrap .u8 ((226 : Int) - s_2.Kind))), (16, .int .i64 YM), (17, .row 17 g17 afx.length), (81, .list 3 (VU.map zt.pv)), (82, .int .i64 (VU.length : Int)), (83, .int .i64 asW), (84, .bool ayu)], [(3, g3, .var 39 [.int .u8 s_2.Kind, .int .i64 s_2.From, .int .i64 s_2.To, .list 5 (s_2.kF.map za.pv), .str s_2.Name, .str s_2.Value]), (17, g17, .row false 6 (afx.map zo.pv))], nx⟩))
     (fun i s => False)
     (fun s => False) ?_ ?_ ?_ ?_
    ·refine zA ?_
     refine qd fun I hI => ?_
     have key : ∀ (suf pre : List zt) (agN : Int) (X5 : (List zo)), VU = pre ++ suf → agN = (pre.length : Int) → xD s_2 suf agN X5 = some e0 → ∀ (nx : Nat) (g3 : Nat) (g17 : Nat), I ⟨[(3, .box 3 g3 0), (13, .int .u8 (IntKind.wrap .u8 ((226 : Int) - s_2.Kind))), (16, .int .i64 YM), (17, .row 17 g17 X5.length), (81, .list 3 (VU.map zt.pv)), (82, .int .i64 (VU.length : Int)), (83, .int .i64 agN)], [(3, g3, .var 39 [.int .u8 s_2.Kind, .int .i64 s_2.From, .int .i64 s_2.To, .list 5 (s_2.kF.map za.pv), .str s_2.Name, .str s_2.Value]), (17, g17, .row false 6 (X5.map zo.pv))], nx⟩ := by
      intro suf
      induction suf with
      | nil =>
       intro pre agN X5 hsplit hidx hh nx g3 g17
       rw [xD] at hh
       refine hI _ ?_
       have h15 := walk_nil hsplit hidx
       refine zb fun K kk hK => ?_
       simp only [go_sem]
       refine hK _ _ fun nx => ?_; clear hK K; try clear kk
       refine zm ?_
       refine zi (by first | exact congrArg PV.bool h15 | rfl) ?_
       refine zU ?_; refine nmx ?_
       refine wX ?_
       refine zG ?_
       refine ⟨_, (Option.some.inj hh), ?_⟩
       first | exact ⟨_, _, _, _, _, rfl⟩ | (simp only [pvE, lsE, zq]; exact ⟨_, _, _, _, _, rfl⟩) | (simp only [pvE, lsE, zq, h15, h2, h3, h6]; exact ⟨_, _, _, _, _, rfl⟩)
      | cons ave suf ih =>
       intro pre agN X5 hsplit hidx hh nx g3 g17
       rw [xD] at hh
       refine hI _ ?_
       obtain ⟨hl0a, hl0b, hl0d, hl0w, h15⟩ := qM (f := zt.pv) hsplit hidx hlen0
       refine zb fun K kk hK => ?_
       simp only [go_sem]
       refine hK _ _ fun nx => ?_; clear hK K; try clear kk
       refine zm ?_
       refine zn (by first | exact congrArg PV.bool h15 | rfl) ?_
       refine zy ?_; refine nmx ?_
       refine zm ?_
       refine zA ?_
       refine zb fun K kk hK => ?_
       simp only [go_sem, hl0a, hl0b, hl0d, hl0w]
       refine hK _ _ fun nx => ?_; clear hK K; try clear kk
       obtain ⟨ayS, h16, hh⟩ := zf hh
       obtain ⟨h16a, h16c⟩ := zV h16
       have h16d := qI (f := zo.pv) h16c
       have h16e := qK h16c
       try simp only [List.length_cons, List.length_nil, Nat.zero_add, Nat.reduceAdd] at h16a h16e
       try simp only [h16e] at h16a
       try simp only [List.map_cons, List.map_nil, List.nil_append, List.append_nil, List.cons_append, List.singleton_append, zq, pvE] at h16d
       refine zu fun K kk hK => ?_
       simp only [go_sem, h16a, h16d, h16e, hl0a, hl0b, hl0d, hl0w]
       (repeat refine sd ?_)
       refine hK _ _ fun nx => ?_; clear hK K; try clear kk
       refine nmx ?_
       refine zu fun K kk hK => ?_
       simp only [go_sem, hl0a, hl0b, hl0d, hl0w]
       refine hK _ _ fun nx => ?_; clear hK K; try clear kk
       refine nmx ?_
       have ih' := ih (pre ++ [ave]) (agN + 1) _ (by rw [hsplit]; simp) (by simp [hidx]) hh nx
       refine zG ?_
       first | exact ih' _ _ | (simp only [pvE, lsE, zq, h16e] at ih' ⊢; exact ih' _ _) | (simp only [pvE, lsE, zq, h16e, h15, h2, h3, h6] at ih' ⊢; exact ih' _ _)
     exact key VU [] _ _ rfl rfl f0 _ _ _
    ·rintro s ⟨t, hless, afx, rfl, asW, ayu, nx, g3, g17, rfl⟩
     try dsimp only at hh
     refine nmy ?_
     first | (refine wh hless ?_; try refine ku ?_) | refine qD hless ?_ | refine qE hless ?_
     refine zb fun K kk hK => ?_
     simp only [go_sem]
     refine hK _ _ fun nx => ?_; clear hK K; try clear kk
     refine zk ?_; refine nmx ?_
     obtain hR := Option.some.inj hh
     subst hR
     exact zz
    ·intro i s h; exact h.elim
    ·intro s h; exact h.elim
theorem Jk (l_1 : (List zx)) (m_2 : (List zx)) (n_3 : (List zx)) (R : Bool) (hh : jH l_1 m_2 n_3 = some R) : PC Tryd.prog 3 [.list 4 (l_1.map zx.pv), .list 4 (m_2.map zx.pv), .list 4 (n_3.map zx.pv)] (.bool R) := by
 rw [jH] at hh
 refine KU rfl ?_
 refine zb fun K kk hK => ?_
 simp only [go_sem]
 refine hK _ _ fun nx => ?_; clear hK K; try clear kk
 obtain ⟨amg, h1, hh⟩ := zf hh
 refine zb fun K kk hK => ?_
 simp only [go_sem]
 refine zg (YG _ h1) (by (try simp only [go_sem]) <;> exact wkl) (by rfl) (by rfl) ?_
 simp only [go_sem]
 refine hK _ _ fun nx => ?_; clear hK K; try clear kk
 refine zm ?_
 refine zb fun K kk hK => ?_
 simp only [go_sem]
 refine hK _ _ fun nx => ?_; clear hK K; try clear kk
 by_cases h2 : (!amg) = true
 ·rw [if_pos h2] at hh
  refine zn (by first | exact congrArg PV.bool h2 | rfl) ?_
  refine zb fun K kk hK => ?_
  simp only [go_sem]
  refine hK _ _ fun nx => ?_; clear hK K; try clear kk
  refine zk ?_; refine nmx ?_
  obtain hR := Option.some.inj hh
  subst hR
  exact zz
 ·rw [if_neg h2] at hh
  replace h2 := Bool.eq_false_iff.mpr h2
  refine zi (by first | exact congrArg PV.bool h2 | rfl) ?_
  refine zy ?_; refine nmx ?_
  obtain ⟨aqd, h3, hh⟩ := zf hh
  refine zb fun K kk hK => ?_
  simp only [go_sem]
  refine zg (vC _ _ h3) (by (try simp only [go_sem]) <;> exact wkl) (by rfl) (by rfl) ?_
  simp only [go_sem]
  refine hK _ _ fun nx => ?_; clear hK K; try clear kk
  obtain ⟨awQ, h4, hh⟩ := zf hh
  obtain ⟨⟨r_7, r_8⟩, h5, hh⟩ := zf hh
  dsimp only at hh
  refine zb fun K kk hK => ?_
  simp only [go_sem]
  refine zg (vC _ _ h4) (by (try simp only [go_sem]) <;> exact wkl) (by rfl) (by rfl) ?_
  simp only [go_sem]
  refine zg (JR _ _ _ h5) (by (try simp only [go_sem]) <;> exact wkl) (by rfl) (by rfl) ?_
  simp only [go_sem]
  refine hK _ _ fun nx => ?_; clear hK K; try clear kk
  obtain ⟨awU, h6, hh⟩ := zf hh
  obtain ⟨auO, h7, hh⟩ := zf hh
  obtain ⟨⟨YH, VU⟩, h8, hh⟩ := zf hh
  dsimp only at hh
  refine zb fun K kk hK => ?_
  simp only [go_sem]
  refine zg (vC _ _ h6) (by (try simp only [go_sem]) <;> exact wkl) (by rfl) (by rfl) ?_
  simp only [go_sem]
  refine zg (vC _ _ h7) (by (try simp only [go_sem]) <;> exact wkl) (by rfl) (by rfl) ?_
  simp only [go_sem]
  refine zg (JR _ _ _ h8) (by (try simp only [go_sem]) <;> exact wkl) (by rfl) (by rfl) ?_
  simp only [go_sem]
  refine hK _ _ fun nx => ?_; clear hK K; try clear kk
  obtain ⟨an1, h9, hh⟩ := zf hh
  obtain ⟨h9a, h9c⟩ := zV h9
  have h9d := qI (f := zo.pv) h9c
  have h9e := qK h9c
  try simp only [List.length_cons, List.length_nil, Nat.zero_add, Nat.reduceAdd] at h9a h9e
  try simp only [h9e] at h9a
  try simp only [List.map_cons, List.map_nil, List.nil_append, List.append_nil, List.cons_append, List.singleton_append, zq, pvE] at h9d
  obtain ⟨ayx, h10, hh⟩ := zf hh
  obtain ⟨h10a, h10c⟩ := zV h10
  have h10d := qI (f := zo.pv) h10c
  have h10e := qK h10c
  try simp only [List.length_cons, List.length_nil, Nat.zero_add, Nat.reduceAdd] at h10a h10e
  try simp only [h10e] at h10a
  try simp only [List.map_cons, List.map_nil, List.nil_append, List.append_nil, List.cons_append, List.singleton_append, zq, pvE] at h10d
  obtain ⟨⟨ayM, axp⟩, h11, hh⟩ := zf hh
  dsimp only at hh
  refine zb fun K kk hK => ?_
  simp only [go_sem, h9a, h9d, h9e, h10a, h10d, h10e]
  (repeat refine sd ?_)
  refine zg (age _ _ _ h11) (by (try simp only [go_sem, h9a, h9d, h9e, h10a, h10d, h10e]) <;> exact wkl) (by rfl) (by rfl) ?_
  simp only [go_sem, h9a, h9d, h9e, h10a, h10d, h10e]
  (repeat refine sd ?_)
  refine hK _ _ fun nx => ?_; clear hK K; try clear kk
  refine zm ?_
  by_cases h12 : (r_8 != (0 : Int)) = true
  ·rw [if_pos h12] at hh
   refine zb fun K kk hK => ?_
   simp only [go_sem, h12]
   (repeat refine sd ?_)
   refine hK _ _ fun nx => ?_; clear hK K; try clear kk
   refine zn rfl ?_
   refine zb fun K kk hK => ?_
   simp only [go_sem]
   refine hK _ _ fun nx => ?_; clear hK K; try clear kk
   refine zk ?_; refine nmx ?_
   obtain hR := Option.some.inj hh
   subst hR
   exact zz
  ·rw [if_neg h12] at hh
   replace h12 := Bool.eq_false_iff.mpr h12
   by_cases h13 : (VU != (0 : Int)) = true
   ·rw [if_pos h13] at hh
    refine zb fun K kk hK => ?_
    simp only [go_sem, h12, h13]
    (repeat refine sd ?_)
    refine hK _ _ fun nx => ?_; clear hK K; try clear kk
    refine zn rfl ?_
    refine zb fun K kk hK => ?_
    simp only [go_sem]
    refine hK _ _ fun nx => ?_; clear hK K; try clear kk
    refine zk ?_; refine nmx ?_
    obtain hR := Option.some.inj hh
    subst hR
    exact zz
   ·rw [if_neg h13] at hh
    replace h13 := Bool.eq_false_iff.mpr h13
    by_cases h14 : (axp != (0 : Int)) = true
    ·rw [if_pos h14] at hh
     refine zb fun K kk hK => ?_
     simp only [go_sem, h12, h13, h14]
     (repeat refine sd ?_)
     refine hK _ _ fun nx => ?_; clear hK K; try clear kk
     refine zn rfl ?_
     refine zb fun K kk hK => ?_
     simp only [go_sem]
     refine hK _ _ fun nx => ?_; clear hK K; try clear kk
     refine zk ?_; refine nmx ?_
     obtain hR := Option.some.inj hh
     subst hR
     exact zz
    ·rw [if_neg h14] at hh
     replace h14 := Bool.eq_false_iff.mpr h14
     obtain ⟨au1, h15, hh⟩ := zf hh
     obtain ⟨alp, h16, hh⟩ := zf hh
     refine zb fun K kk hK => ?_
     simp only [go_sem, h12, h13, h14]
     (repeat refine sd ?_)
     refine zg (vC _ _ h15) (by (try simp only [go_sem, h12, h13, h14]) <;> exact wkl) (by rfl) (by rfl) ?_
     simp only [go_sem, h12, h13, h14]
     (repeat refine sd ?_)
     refine zg (QY _ _ _ h16) (by (try simp only [go_sem, h12, h13, h14]) <;> exact wkl) (by rfl) (by rfl) ?_
     simp only [go_sem, h12, h13, h14]
     (repeat refine sd ?_)
     refine hK _ _ fun nx => ?_; clear hK K; try clear kk
     by_cases h17 : (!alp) = true
     ·rw [if_pos h17] at hh
      refine zn (by first | exact congrArg PV.bool h17 | rfl) ?_
      refine zb fun K kk hK => ?_
      simp only [go_sem]
      refine hK _ _ fun nx => ?_; clear hK K; try clear kk
      refine zk ?_; refine nmx ?_
      obtain hR := Option.some.inj hh
      subst hR
      exact zz
     ·rw [if_neg h17] at hh
      replace h17 := Bool.eq_false_iff.mpr h17
      refine zi (by first | exact congrArg PV.bool h17 | rfl) ?_
      refine zy ?_; refine nmx ?_
      refine zb fun K kk hK => ?_
      simp only [go_sem]
      refine hK _ _ fun nx => ?_; clear hK K; try clear kk
      refine zm ?_
      refine zb fun K kk hK => ?_
      simp only [go_sem]
      refine hK _ _ fun nx => ?_; clear hK K; try clear kk
      obtain ⟨e0, f0, hh⟩ := zf hh
      obtain ⟨hlen0, f0⟩ := qf f0
      refine qp (kC (fun s => ∃ Yk, .inr Yk = e0 ∧ ∃ (ay7 : Int) (ayn : Bool) (nx : Nat) (g15 : Nat), s = ⟨[(1, .list 4 (m_2.map zx.pv)), (9, .list 6 (r_7.map zo.pv)), (15, .box 15 g15 0), (16, .int .i64 ay7), (74, .bool ayn)], [(15, g15, .var 28 [.str Yk.Kind, .str Yk.Text, .list 1 (Yk.Marks.map PV.str), .list 2 (Yk.zh.map ze.pv), .list 5 (Yk.Kids.map za.pv)])], nx⟩))
       (fun i s => False)
       (fun s => ∃ ai7, .inl ai7 = e0 ∧ zS Tryd.prog [.tmp 6] (.bool ai7) [] .ret s) ?_ ?_ ?_ ?_
      ·refine zA ?_
       refine qd fun I hI => ?_
       have key : ∀ (suf pre : List zo) (ame : Int) (QP : za), r_7 = pre ++ suf → ame = (pre.length : Int) → qZ suf ame QP = some e0 → ∀ (nx : Nat) (g15 : Nat), I ⟨[(1, .list 4 (m_2.map zx.pv)), (9, .list 6 (r_7.map zo.pv)), (15, .box 15 g15 0), (16, .int .i64 ame)], [(15, g15, .var 28 [.str QP.Kind, .str QP.Text, .list 1 (QP.Marks.map PV.str), .list 2 (QP.zh.map ze.pv), .list 5 (QP.Kids.map za.pv)])], nx⟩ := by
        intro suf
        induction suf with
        | nil =>
         intro pre ame QP hsplit hidx hh nx g15
         rw [qZ] at hh
         refine hI _ ?_
         have h38 := walk_nil hsplit hidx
         refine zm ?_
         refine zb fun K kk hK => ?_
         simp only [go_sem]
         refine hK _ _ fun nx => ?_; clear hK K; try clear kk
         refine zi (by first | exact congrArg PV.bool h38 | rfl) ?_
         refine zU ?_; refine nmx ?_
         refine wX ?_
         refine zG ?_
         refine ⟨_, (Option.some.inj hh), ?_⟩
         first | exact ⟨_, _, _, _, rfl⟩ | (simp only [pvE, lsE, zq, h9e, h9d, h10e]; exact ⟨_, _, _, _, rfl⟩) | (simp only [pvE, lsE, zq, h9e, h9d, h10e, h12, h13, h14, h17, h2, h38]; exact ⟨_, _, _, _, rfl⟩)
        | cons av6 suf ih =>
         intro pre ame QP hsplit hidx hh nx g15
         rw [qZ] at hh
         refine hI _ ?_
         obtain ⟨hl0a, hl0b, hl0d, hl0w, h38⟩ := qM (f := zo.pv) hsplit hidx hlen0
         refine zm ?_
         refine zb fun K kk hK => ?_
         simp only [go_sem]
         refine hK _ _ fun nx => ?_; clear hK K; try clear kk
         refine zn (by first | exact congrArg PV.bool h38 | rfl) ?_
         refine zy ?_; refine nmx ?_
         refine zm ?_
         refine zA ?_
         obtain ⟨⟨ax5, axk⟩, h39, hh⟩ := zf hh
         dsimp only at hh
         refine zb fun K kk hK => ?_
         simp only [go_sem, hl0a, hl0b, hl0d, hl0w]
         refine zg (ams _ _ _ h39) (by (try simp only [go_sem, hl0a, hl0b, hl0d, hl0w]) <;> exact wkl) (by rfl) (by rfl) ?_
         simp only [go_sem, hl0a, hl0b, hl0d, hl0w]
         refine hK _ _ fun nx => ?_; clear hK K; try clear kk
         obtain ⟨⟨axD, axT⟩, h40, hh⟩ := zf hh
         dsimp only at hh
         refine zb fun K kk hK => ?_
         simp only [go_sem, hl0a, hl0b, hl0d, hl0w]
         refine zg (JY _ _ _ h40) (by (try simp only [go_sem, hl0a, hl0b, hl0d, hl0w]) <;> exact wkl) (by rfl) (by rfl) ?_
         simp only [go_sem, hl0a, hl0b, hl0d, hl0w]
         refine hK _ _ fun nx => ?_; clear hK K; try clear kk
         obtain ⟨⟨ayb, axu⟩, h41, hh⟩ := zf hh
         dsimp only at hh
         refine zb fun K kk hK => ?_
         simp only [go_sem, hl0a, hl0b, hl0d, hl0w]
         refine zg (age _ _ _ h41) (by (try simp only [go_sem, hl0a, hl0b, hl0d, hl0w]) <;> exact wkl) (by rfl) (by rfl) ?_
         simp only [go_sem, hl0a, hl0b, hl0d, hl0w]
         refine hK _ _ fun nx => ?_; clear hK K; try clear kk
         refine zm ?_
         by_cases h42 : (axk != (0 : Int)) = true
         ·rw [if_pos h42] at hh
          refine zb fun K kk hK => ?_
          simp only [go_sem, h42, hl0a, hl0b, hl0d, hl0w]
          (repeat refine sd ?_)
          refine hK _ _ fun nx => ?_; clear hK K; try clear kk
          refine zn rfl ?_
          refine zb fun K kk hK => ?_
          simp only [go_sem, hl0a, hl0b, hl0d, hl0w]
          refine hK _ _ fun nx => ?_; clear hK K; try clear kk
          refine zk ?_; refine nmx ?_
          refine yN ⟨_, (Option.some.inj hh), ?_⟩
          exact zz
         ·rw [if_neg h42] at hh
          replace h42 := Bool.eq_false_iff.mpr h42
          by_cases h43 : (axT != (0 : Int)) = true
          ·rw [if_pos h43] at hh
           refine zb fun K kk hK => ?_
           simp only [go_sem, h42, h43, hl0a, hl0b, hl0d, hl0w]
           (repeat refine sd ?_)
           refine hK _ _ fun nx => ?_; clear hK K; try clear kk
           refine zn rfl ?_
           refine zb fun K kk hK => ?_
           simp only [go_sem, hl0a, hl0b, hl0d, hl0w]
           refine hK _ _ fun nx => ?_; clear hK K; try clear kk
           refine zk ?_; refine nmx ?_
           refine yN ⟨_, (Option.some.inj hh), ?_⟩
           exact zz
          ·rw [if_neg h43] at hh
           replace h43 := Bool.eq_false_iff.mpr h43
           by_cases h44 : (axu != (0 : Int)) = true
           ·rw [if_pos h44] at hh
            refine zb fun K kk hK => ?_
            simp only [go_sem, h42, h43, h44, hl0a, hl0b, hl0d, hl0w]
            (repeat refine sd ?_)
            refine hK _ _ fun nx => ?_; clear hK K; try clear kk
            refine zn rfl ?_
            refine zb fun K kk hK => ?_
            simp only [go_sem, hl0a, hl0b, hl0d, hl0w]
            refine hK _ _ fun nx => ?_; clear hK K; try clear kk
            refine zk ?_; refine nmx ?_
            refine yN ⟨_, (Option.some.inj hh), ?_⟩
            exact zz
           ·rw [if_neg h44] at hh
            replace h44 := Bool.eq_false_iff.mpr h44
            obtain ⟨alb, h45, hh⟩ := zf hh
            refine zb fun K kk hK => ?_
            simp only [go_sem, h42, h43, h44, hl0a, hl0b, hl0d, hl0w]
            (repeat refine sd ?_)
            refine zg (QY _ _ _ h45) (by (try simp only [go_sem, h42, h43, h44, hl0a, hl0b, hl0d, hl0w]) <;> exact wkl) (by rfl) (by rfl) ?_
            simp only [go_sem, h42, h43, h44, hl0a, hl0b, hl0d, hl0w]
            (repeat refine sd ?_)
            refine hK _ _ fun nx => ?_; clear hK K; try clear kk
            by_cases h46 : (!alb) = true
            ·rw [if_pos h46] at hh
             refine zn (by first | exact congrArg PV.bool h46 | rfl) ?_
             refine zb fun K kk hK => ?_
             simp only [go_sem, hl0a, hl0b, hl0d, hl0w]
             refine hK _ _ fun nx => ?_; clear hK K; try clear kk
             refine zk ?_; refine nmx ?_
             refine yN ⟨_, (Option.some.inj hh), ?_⟩
             exact zz
            ·rw [if_neg h46] at hh
             replace h46 := Bool.eq_false_iff.mpr h46
             refine zi (by first | exact congrArg PV.bool h46 | rfl) ?_
             refine zy ?_; refine nmx ?_
             refine zu fun K kk hK => ?_
             simp only [go_sem, hl0a, hl0b, hl0d, hl0w]
             refine hK _ _ fun nx => ?_; clear hK K; try clear kk
             refine nmx ?_
             refine zu fun K kk hK => ?_
             simp only [go_sem, hl0a, hl0b, hl0d, hl0w]
             refine hK _ _ fun nx => ?_; clear hK K; try clear kk
             refine nmx ?_
             have ih' := ih (pre ++ [av6]) (ame + 1) _ (by rw [hsplit]; simp) (by simp [hidx]) hh nx
             refine zG ?_
             first | exact ih' _ | (simp only [pvE, lsE, zq, h9e, h9d, h10e] at ih' ⊢; exact ih' _) | (simp only [pvE, lsE, zq, h9e, h9d, h10e, h12, h13, h14, h17, h2, h38, h42, h43, h44, h46] at ih' ⊢; exact ih' _)
       first | exact key r_7 [] _ _ rfl rfl f0 _ _ | (simp only [← h9d]; exact key r_7 [] _ _ rfl rfl f0 _ _)
      ·rintro s ⟨t, hless, Yk, rfl, ay7, ayn, nx, g15, rfl⟩
       try dsimp only at hh
       refine nmy ?_
       first | (refine wh hless ?_; try refine ku ?_) | refine qD hless ?_ | refine qE hless ?_
       obtain ⟨asY, h47, hh⟩ := zf hh
       obtain ⟨aqN, h48, hh⟩ := zf hh
       refine zb fun K kk hK => ?_
       simp only [go_sem]
       refine zg (vC _ _ h47) (by (try simp only [go_sem]) <;> exact wkl) (by rfl) (by rfl) ?_
       simp only [go_sem]
       refine zg (QY _ _ _ h48) (by (try simp only [go_sem]) <;> exact wkl) (by rfl) (by rfl) ?_
       simp only [go_sem]
       refine hK _ _ fun nx => ?_; clear hK K; try clear kk
       refine zk ?_; refine nmx ?_
       obtain hR := Option.some.inj hh
       subst hR
       exact zz
      ·intro i s h; exact h.elim
      ·rintro s ⟨ai7, rfl, hb⟩
       try dsimp only at hh
       obtain hR := Option.some.inj hh
       subst hR
       refine nmx ?_
       exact hb
end Go.Proofs.YtclohbgnaopjfaaDoor
