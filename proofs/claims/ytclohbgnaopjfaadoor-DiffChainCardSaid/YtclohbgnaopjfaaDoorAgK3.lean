/- Texts of the proof of diffChainCard -/
import Derived.Test.YtclohbgnaopjfaaDoorAgC
import Derived.Test.YtclohbgnaopjfaaDoorAgF
import Derived.Test.YtclohbgnaopjfaaDoorAgK0
import Derived.Test.YtclohbgnaopjfaaDoorAgK1
import Derived.Test.YtclohbgnaopjfaaDoorAgK2
namespace Go.Proofs.YtclohbgnaopjfaaDoor
set_option linter.unusedSimpArgs false
set_option linter.unusedVariables false
open Go
set_option maxRecDepth 100000
theorem ajB : ∀ kr : Nat, (∀ (n_1 : za) (R : za), xB kr n_1 = some R → PC Tryd.prog 41 [.agg [.str n_1.Kind, .str n_1.Text, .list 1 (n_1.Marks.map PV.str), .list 2 (n_1.zh.map ze.pv), .list 5 (n_1.Kids.map za.pv)]] (.agg [.str R.Kind, .str R.Text, .list 1 (R.Marks.map PV.str), .list 2 (R.zh.map ze.pv), .list 5 (R.Kids.map za.pv)])) := by
 intro kr
 induction kr with
 | zero => exact (by intro n_1 R hh; rw [xB] at hh; cases hh)
 | succ kr ih =>
  have ih_node_Copy := ih
  clear ih
  intro n_1 R hh
  rw [xB] at hh
  refine agC rfl ?_
  refine zb fun K kk hK => ?_
  simp only [go_sem]
  refine hK _ _ fun nx => ?_; clear hK K; try clear kk
  obtain ⟨acZ, h1, hh⟩ := zf hh
  obtain ⟨attr_3, h2, hh⟩ := zf hh
  obtain ⟨jF, h3, hh⟩ := zf hh
  refine zb fun K kk hK => ?_
  simp only [go_sem]
  refine zg (XI _ _ h1).list (by (try simp only [go_sem]) <;> exact wkl) (by rfl) (by rfl) ?_
  simp only [go_sem]
  refine zg (ZU _ _ h2).list (by (try simp only [go_sem]) <;> exact wkl) (by rfl) (by rfl) ?_
  simp only [go_sem]
  refine XO [] (by decide) (by decide) (vN _ _ h3) (by (try simp only [go_sem]) <;> exact wkb) (by rfl) (by rfl) ?_
  simp only [go_sem]
  refine hK _ _ fun nx => ?_; clear hK K; try clear kk
  refine zm ?_
  refine zb fun K kk hK => ?_
  simp only [go_sem]
  refine hK _ _ fun nx => ?_; clear hK K; try clear kk
  obtain ⟨e0, f0, hh⟩ := zf hh
  refine qp (kC (fun s => ∃ Yc, Yc = e0 ∧ ∃ (JO : Int) (Zy : Bool) (nx : Nat) (g1 : Nat) (g2 : Nat) (g18 : Nat), s = ⟨[(1, .box 1 g1 0), (2, .box 2 g2 0), (18, .row 18 g18 Yc.length), (19, .int .i64 (jF.length : Int)), (20, .int .i64 JO), (21, .bool Zy)], [(1, g1, .var 28 [.str n_1.Kind, .str n_1.Text, .list 1 (acZ.map PV.str), .list 2 (attr_3.map ze.pv), .row 18 g18 Yc.length]), (2, g2, .var 28 [.str ([] : Str), .str ([] : Str), .list 1 ([].map PV.str), .list 2 ([].map ze.pv), .list 5 ([].map za.pv)]), (18, g18, .row false 5 (Yc.map za.pv))], nx⟩))
   (fun i s => False)
   (fun s => False) ?_ ?_ ?_ ?_
  ·refine zA ?_
   refine qd fun I hI => ?_
   obtain ⟨k, f0⟩ := jU f0
   have key : ∀ (k : Nat) (v_8 : Int) (v_9 : (List za)), xG jF (xB kr) k v_8 v_9 = some e0 → ∀ (nx : Nat) (g1 : Nat) (g2 : Nat) (g18 : Nat), I ⟨[(1, .box 1 g1 0), (2, .box 2 g2 0), (18, .row 18 g18 v_9.length), (19, .int .i64 (jF.length : Int)), (20, .int .i64 v_8)], [(1, g1, .var 28 [.str n_1.Kind, .str n_1.Text, .list 1 (acZ.map PV.str), .list 2 (attr_3.map ze.pv), .row 18 g18 v_9.length]), (2, g2, .var 28 [.str ([] : Str), .str ([] : Str), .list 1 ([].map PV.str), .list 2 ([].map ze.pv), .list 5 ([].map za.pv)]), (18, g18, .row false 5 (v_9.map za.pv))], nx⟩ := by
    intro k
    induction k with
    | zero => intro v_8 v_9 hh; rw [xG] at hh; cases hh
    | succ k ih =>
     intro v_8 v_9 hh nx g1 g2 g18
     rw [xG] at hh
     refine hI _ ?_
     refine zb fun K kk hK => ?_
     simp only [go_sem]
     refine hK _ _ fun nx => ?_; clear hK K; try clear kk
     refine zm ?_
     by_cases h8 : (decide (v_8 < (jF.length : Int))) = true
     ·rw [if_pos h8] at hh
      refine zn (by first | exact congrArg PV.bool h8 | rfl) ?_
      refine zy ?_; refine nmx ?_
      refine zm ?_
      refine zA ?_
      obtain ⟨aeQ, h9, hh⟩ := zf hh
      obtain ⟨h9a, h9b, h9c⟩ := rd_some h9
      have h9d := kE (f := za.pv) h9c
      have h9f := wo (f := za.pv) h9c
      try simp only [Int.toNat_natCast, Int.reduceToNat] at h9d h9f
      refine zb fun K kk hK => ?_
      simp only [go_sem, h9a, h9b, h9d, h9f.1, h9f.2]
      (repeat refine sd ?_)
      refine hK _ _ fun nx => ?_; clear hK K; try clear kk
      obtain ⟨aqC, h10, hh⟩ := zf hh
      obtain ⟨ahU, h11, hh⟩ := zf hh
      obtain ⟨h11a, h11c⟩ := XY h11
      have h11d := acR (f := za.pv) h11c
      try simp only [Int.toNat_natCast, Int.reduceToNat, List.map_cons, List.map_nil, List.cons_append, List.nil_append, List.singleton_append, pvE] at h11d
      have h11e := acN h11c
      have h9b_h11 := h9b; rw [h11e] at h9b_h11
      have h9f1_h11 := h9f.1; rw [h11e] at h9f1_h11
      have h9a_h11 := h9a; try rw [h11e] at h9a_h11
      have h9d_h11 := h9d; try rw [h11e] at h9d_h11
      try rw [h11e] at h11d
      have h11bw := h11a.2; rw [h11e] at h11bw
      refine zu fun K kk hK => ?_
      simp only [go_sem, h9a, h9b, h9d, h9f.1, h9f.2, h11a.1, h11a.2, h11d, h11e, h9b_h11, h9f1_h11, h9a_h11, h9d_h11, h11bw]
      (repeat refine sd ?_)
      refine zg (ih_node_Copy _ _ h10) (by (try simp only [go_sem, h9a, h9b, h9d, h9f.1, h9f.2, h11a.1, h11a.2, h11d, h11e, h9b_h11, h9f1_h11, h9a_h11, h9d_h11, h11bw]) <;> exact wkl) (by rfl) (by rfl) ?_
      simp only [go_sem, h9a, h9b, h9d, h9f.1, h9f.2, h11a.1, h11a.2, h11d, h11e, h9b_h11, h9f1_h11, h9a_h11, h9d_h11, h11bw]
      (repeat refine sd ?_)
      try simp only [go_sem, h9a, h9b, h9d, h9f.1, h9f.2, h11a.1, h11a.2, h11d, h11e, h9b_h11, h9f1_h11, h9a_h11, h9d_h11, h11bw]
      refine hK _ _ fun nx => ?_; clear hK K; try clear kk
      refine nmx ?_
      refine zu fun K kk hK => ?_
      simp only [go_sem]
      refine hK _ _ fun nx => ?_; clear hK K; try clear kk
      refine nmx ?_
      have ih' := ih _ _ hh nx
      refine zG ?_
      first | exact ih' _ _ _ | (simp only [pvE, lsE, zq, h11e] at ih' ⊢; exact ih' _ _ _) | (simp only [pvE, lsE, zq, h11e, h8] at ih' ⊢; exact ih' _ _ _)
     ·rw [if_neg h8] at hh
      replace h8 := Bool.eq_false_iff.mpr h8
      refine zi (by first | exact congrArg PV.bool h8 | rfl) ?_
      refine zU ?_; refine nmx ?_
      refine wX ?_
      refine zG ?_
      refine ⟨_, (Option.some.inj hh), ?_⟩
      first | exact ⟨_, _, _, _, _, _, rfl⟩ | (simp only [pvE, lsE, zq]; exact ⟨_, _, _, _, _, _, rfl⟩) | (simp only [pvE, lsE, zq, h8]; exact ⟨_, _, _, _, _, _, rfl⟩)
   exact key _ _ _ f0 _ _ _ _
  ·rintro s ⟨t, hless, Yc, rfl, JO, Zy, nx, g1, g2, g18, rfl⟩
   try dsimp only at hh
   refine nmy ?_
   first | (refine wh hless ?_; try refine ku ?_) | refine qD hless ?_ | refine qE hless ?_
   refine zb fun K kk hK => ?_
   simp only [go_sem]
   refine hK _ _ fun nx => ?_; clear hK K; try clear kk
   refine zk ?_; refine nmx ?_
   obtain hR := Option.some.inj hh
   subst hR
   exact zz
  ·intro i s h; exact h.elim
  ·intro s h; exact h.elim
theorem alS (n_1 : za) (R : za) (hh : XB n_1 = some R) : PC Tryd.prog 41 [.agg [.str n_1.Kind, .str n_1.Text, .list 1 (n_1.Marks.map PV.str), .list 2 (n_1.zh.map ze.pv), .list 5 (n_1.Kids.map za.pv)]] (.agg [.str R.Kind, .str R.Text, .list 1 (R.Marks.map PV.str), .list 2 (R.zh.map ze.pv), .list 5 (R.Kids.map za.pv)]) := by
 rw [XB] at hh
 obtain ⟨kr, hh⟩ := jU hh
 exact (ajB kr) _ _ hh
theorem JR (a_1 : za) (b_2 : za) (R : ((List zo) × Int)) (hh : y8 a_1 b_2 = some R) : PC Tryd.prog 13 [.agg [.str a_1.Kind, .str a_1.Text, .list 1 (a_1.Marks.map PV.str), .list 2 (a_1.zh.map ze.pv), .list 5 (a_1.Kids.map za.pv)], .agg [.str b_2.Kind, .str b_2.Text, .list 1 (b_2.Marks.map PV.str), .list 2 (b_2.zh.map ze.pv), .list 5 (b_2.Kids.map za.pv)]] (.tup [.list 6 (R.1.map zo.pv), .int .i64 R.2]) := by
 rw [y8] at hh
 refine afH rfl ?_
 refine zb fun K kk hK => ?_
 simp only [go_sem]
 refine hK _ _ fun nx => ?_; clear hK K; try clear kk
 refine zm ?_
 obtain ⟨XZ, h1, hh⟩ := zf hh
 by_cases h2 : (!XZ) = true
 ·rw [if_pos h2] at hh
  refine zb fun K kk hK => ?_
  simp only [go_sem, h2]
  (repeat refine sd ?_)
  refine zg (xL _ _ h1) (by (try simp only [go_sem, h2]) <;> exact wkl) (by rfl) (by rfl) ?_
  simp only [go_sem, h2]
  (repeat refine sd ?_)
  refine hK _ _ fun nx => ?_; clear hK K; try clear kk
  refine zn rfl ?_
  refine zb fun K kk hK => ?_
  simp only [go_sem]
  refine hK _ _ fun nx => ?_; clear hK K; try clear kk
  refine zk ?_; refine nmx ?_
  obtain hR := Option.some.inj hh
  subst hR
  exact zz
 ·rw [if_neg h2] at hh
  replace h2 := Bool.eq_false_iff.mpr h2
  obtain ⟨XF, h3, hh⟩ := zf hh
  by_cases h4 : (!XF) = true
  ·rw [if_pos h4] at hh
   refine zb fun K kk hK => ?_
   simp only [go_sem, h2, h4]
   (repeat refine sd ?_)
   refine zg (xL _ _ h1) (by (try simp only [go_sem, h2, h4]) <;> exact wkl) (by rfl) (by rfl) ?_
   simp only [go_sem, h2, h4]
   (repeat refine sd ?_)
   refine zg (xL _ _ h3) (by (try simp only [go_sem, h2, h4]) <;> exact wkl) (by rfl) (by rfl) ?_
   simp only [go_sem, h2, h4]
   (repeat refine sd ?_)
   refine hK _ _ fun nx => ?_; clear hK K; try clear kk
   refine zn rfl ?_
   refine zb fun K kk hK => ?_
   simp only [go_sem]
   refine hK _ _ fun nx => ?_; clear hK K; try clear kk
   refine zk ?_; refine nmx ?_
   obtain hR := Option.some.inj hh
   subst hR
   exact zz
  ·rw [if_neg h4] at hh
   replace h4 := Bool.eq_false_iff.mpr h4
   obtain ⟨amv, h5, hh⟩ := zf hh
   refine zb fun K kk hK => ?_
   simp only [go_sem, h2, h4]
   (repeat refine sd ?_)
   refine zg (xL _ _ h1) (by (try simp only [go_sem, h2, h4]) <;> exact wkl) (by rfl) (by rfl) ?_
   simp only [go_sem, h2, h4]
   (repeat refine sd ?_)
   refine zg (xL _ _ h3) (by (try simp only [go_sem, h2, h4]) <;> exact wkl) (by rfl) (by rfl) ?_
   simp only [go_sem, h2, h4]
   (repeat refine sd ?_)
   refine zg (abZ _ _ _ h5) (by (try simp only [go_sem, h2, h4]) <;> exact wkl) (by rfl) (by rfl) ?_
   simp only [go_sem, h2, h4]
   (repeat refine sd ?_)
   refine hK _ _ fun nx => ?_; clear hK K; try clear kk
   by_cases h6 : (!amv) = true
   ·rw [if_pos h6] at hh
    refine zn (by first | exact congrArg PV.bool h6 | rfl) ?_
    refine zb fun K kk hK => ?_
    simp only [go_sem]
    refine hK _ _ fun nx => ?_; clear hK K; try clear kk
    refine zk ?_; refine nmx ?_
    obtain hR := Option.some.inj hh
    subst hR
    exact zz
   ·rw [if_neg h6] at hh
    replace h6 := Bool.eq_false_iff.mpr h6
    refine zi (by first | exact congrArg PV.bool h6 | rfl) ?_
    refine zy ?_; refine nmx ?_
    obtain ⟨Yi, h7, hh⟩ := zf hh
    refine zb fun K kk hK => ?_
    simp only [go_sem]
    refine zg (ao0 _ _ _ h7) (by (try simp only [go_sem]) <;> exact wkl) (by rfl) (by rfl) ?_
    simp only [go_sem]
    refine hK _ _ fun nx => ?_; clear hK K; try clear kk
    refine zm ?_
    refine zb fun K kk hK => ?_
    simp only [go_sem]
    refine hK _ _ fun nx => ?_; clear hK K; try clear kk
    by_cases h8 : ((w64 (Yi.m + Yi.n)) == (0 : Int)) = true
    ·rw [if_pos h8] at hh
     refine zn (by first | exact congrArg PV.bool h8 | rfl) ?_
     refine zb fun K kk hK => ?_
     simp only [go_sem]
     refine hK _ _ fun nx => ?_; clear hK K; try clear kk
     refine zk ?_; refine nmx ?_
     obtain hR := Option.some.inj hh
     subst hR
     exact zz
    ·rw [if_neg h8] at hh
     replace h8 := Bool.eq_false_iff.mpr h8
     refine zi (by first | exact congrArg PV.bool h8 | rfl) ?_
     refine zy ?_; refine nmx ?_
     obtain ⟨s_7, h9, hh⟩ := zf hh
     obtain ⟨h9a, h9c⟩ := yP h9
     have h9g := Jn h9a
     have h9d := JD (f := za.pv) h9c
     try simp only [Int.toNat_natCast, Int.reduceToNat, List.map_cons, List.map_nil, pvE] at h9d
     obtain ⟨amG, h10, hh⟩ := zf hh
     refine zb fun K kk hK => ?_
     simp only [go_sem, h9a.1, h9a.2.1, h9a.2.2, h9d, h9g]
     (repeat refine sd ?_)
     refine zg (jK _ _ h10) (by (try simp only [go_sem, h9a.1, h9a.2.1, h9a.2.2, h9d, h9g]) <;> exact wkl) (by rfl) (by rfl) ?_
     simp only [go_sem, h9a.1, h9a.2.1, h9a.2.2, h9d, h9g]
     (repeat refine sd ?_)
     refine hK _ _ fun nx => ?_; clear hK K; try clear kk
     obtain ⟨s_9, h11, hh⟩ := zf hh
     obtain ⟨h11a, h11c⟩ := yP h11
     have h11g := Jn h11a
     have h11d := ap6 (f := za.pv) h11c
     try simp only [Int.toNat_natCast, Int.reduceToNat, List.map_cons, List.map_nil, pvE] at h11d
     obtain ⟨am0, h12, hh⟩ := zf hh
     refine zb fun K kk hK => ?_
     simp only [go_sem, h11a.1, h11a.2.1, h11a.2.2, h11d, h11g]
     (repeat refine sd ?_)
     refine zg (jK _ _ h12) (by (try simp only [go_sem, h11a.1, h11a.2.1, h11a.2.2, h11d, h11g]) <;> exact wkl) (by rfl) (by rfl) ?_
     simp only [go_sem, h11a.1, h11a.2.1, h11a.2.2, h11d, h11g]
     (repeat refine sd ?_)
     refine hK _ _ fun nx => ?_; clear hK K; try clear kk
     obtain ⟨axY, h13, hh⟩ := zf hh
     obtain ⟨h13a, h13c⟩ := yP h13
     have h13g := Jn h13a
     have h13d := ap6 (f := za.pv) h13c
     try simp only [Int.toNat_natCast, Int.reduceToNat, List.map_cons, List.map_nil, pvE] at h13d
     obtain ⟨aqD, h14, hh⟩ := zf hh
     refine zb fun K kk hK => ?_
     simp only [go_sem, h13a.1, h13a.2.1, h13a.2.2, h13d, h13g]
     (repeat refine sd ?_)
     refine zg (alS _ _ h14) (by (try simp only [go_sem, h13a.1, h13a.2.1, h13a.2.2, h13d, h13g]) <;> exact wkl) (by rfl) (by rfl) ?_
     simp only [go_sem, h13a.1, h13a.2.1, h13a.2.2, h13d, h13g]
     (repeat refine sd ?_)
     refine hK _ _ fun nx => ?_; clear hK K; try clear kk
     obtain ⟨an1, h15, hh⟩ := zf hh
     obtain ⟨h15a, h15c⟩ := zV h15
     have h15d := qI (f := zo.pv) h15c
     have h15e := qK h15c
     try simp only [List.length_cons, List.length_nil, Nat.zero_add, Nat.reduceAdd] at h15a h15e
     try simp only [h15e] at h15a
     try simp only [List.map_cons, List.map_nil, List.nil_append, List.append_nil, List.cons_append, List.singleton_append, zq, pvE] at h15d
     refine zb fun K kk hK => ?_
     simp only [go_sem, h15a, h15d, h15e]
     (repeat refine sd ?_)
     refine hK _ _ fun nx => ?_; clear hK K; try clear kk
     refine zk ?_; refine nmx ?_
     obtain hR := Option.some.inj hh
     subst hR
     exact zz
theorem YG (R : Bool) (hh : jX = some R) : PC Tryd.prog 11 [] (.bool R) := by
 rw [jX] at hh
 refine JN rfl ?_
 refine zb fun K kk hK => ?_
 simp only [go_sem]
 refine hK _ _ fun nx => ?_; clear hK K; try clear kk
 refine zb fun K kk hK => ?_
 simp only [go_sem]
 refine hK _ _ fun nx => ?_; clear hK K; try clear kk
 refine zb fun K kk hK => ?_
 simp only [go_sem]
 refine hK _ _ fun nx => ?_; clear hK K; try clear kk
 obtain ⟨⟨r_1, r_2⟩, h1, hh⟩ := zf hh
 dsimp only at hh
 refine zb fun K kk hK => ?_
 simp only [go_sem]
 refine zg (JR _ _ _ h1) (by (try simp only [go_sem]) <;> exact wkl) (by rfl) (by rfl) ?_
 simp only [go_sem]
 refine hK _ _ fun nx => ?_; clear hK K; try clear kk
 by_cases h2 : (r_2 == (0 : Int)) = true
 ·rw [if_pos h2] at hh
  by_cases h3 : ((r_1.length : Int) == (1 : Int)) = true
  ·rw [if_pos h3] at hh
   obtain ⟨x_3, h4, hh⟩ := zf hh
   obtain ⟨h4a, h4b, h4c⟩ := rd_some h4
   have h4d := kE (f := zo.pv) h4c
   have h4f := wo (f := zo.pv) h4c
   try simp only [Int.toNat_natCast, Int.reduceToNat] at h4d h4f
   by_cases h5 : (x_3.Kind == (114 : Int)) = true
   ·rw [if_pos h5] at hh
    by_cases h6 : (x_3.From == (1 : Int)) = true
    ·rw [if_pos h6] at hh
     by_cases h7 : (x_3.To == (3 : Int)) = true
     ·rw [if_pos h7] at hh
      by_cases h8 : ((x_3.kF.length : Int) == (1 : Int)) = true
      ·rw [if_pos h8] at hh
       obtain ⟨x_4, h9, hh⟩ := zf hh
       obtain ⟨h9a, h9b, h9c⟩ := rd_some h9
       have h9d := kE (f := za.pv) h9c
       have h9f := wo (f := za.pv) h9c
       try simp only [Int.toNat_natCast, Int.reduceToNat] at h9d h9f
       refine zb fun K kk hK => ?_
       simp only [go_sem, h2, h3, h4a, h4b, h4d, h4f.1, h4f.2, h5, h6, h7, h8, h9a, h9b, h9d, h9f.1, h9f.2]
       (repeat refine sd ?_)
       refine hK _ _ fun nx => ?_; clear hK K; try clear kk
       refine zk ?_; refine nmx ?_
       obtain hR := Option.some.inj hh
       subst hR
       exact zz
      ·rw [if_neg h8] at hh
       replace h8 := Bool.eq_false_iff.mpr h8
       refine zb fun K kk hK => ?_
       simp only [go_sem, h2, h3, h4a, h4b, h4d, h4f.1, h4f.2, h5, h6, h7, h8]
       (repeat refine sd ?_)
       refine hK _ _ fun nx => ?_; clear hK K; try clear kk
       refine zk ?_; refine nmx ?_
       obtain hR := Option.some.inj hh
       subst hR
       exact zz
     ·rw [if_neg h7] at hh
      replace h7 := Bool.eq_false_iff.mpr h7
      refine zb fun K kk hK => ?_
      simp only [go_sem, h2, h3, h4a, h4b, h4d, h4f.1, h4f.2, h5, h6, h7]
      (repeat refine sd ?_)
      refine hK _ _ fun nx => ?_; clear hK K; try clear kk
      refine zk ?_; refine nmx ?_
      obtain hR := Option.some.inj hh
      subst hR
      exact zz
    ·rw [if_neg h6] at hh
     replace h6 := Bool.eq_false_iff.mpr h6
     refine zb fun K kk hK => ?_
     simp only [go_sem, h2, h3, h4a, h4b, h4d, h4f.1, h4f.2, h5, h6]
     (repeat refine sd ?_)
     refine hK _ _ fun nx => ?_; clear hK K; try clear kk
     refine zk ?_; refine nmx ?_
     obtain hR := Option.some.inj hh
     subst hR
     exact zz
   ·rw [if_neg h5] at hh
    replace h5 := Bool.eq_false_iff.mpr h5
    refine zb fun K kk hK => ?_
    simp only [go_sem, h2, h3, h4a, h4b, h4d, h4f.1, h4f.2, h5]
    (repeat refine sd ?_)
    refine hK _ _ fun nx => ?_; clear hK K; try clear kk
    refine zk ?_; refine nmx ?_
    obtain hR := Option.some.inj hh
    subst hR
    exact zz
  ·rw [if_neg h3] at hh
   replace h3 := Bool.eq_false_iff.mpr h3
   refine zb fun K kk hK => ?_
   simp only [go_sem, h2, h3]
   (repeat refine sd ?_)
   refine hK _ _ fun nx => ?_; clear hK K; try clear kk
   refine zk ?_; refine nmx ?_
   obtain hR := Option.some.inj hh
   subst hR
   exact zz
 ·rw [if_neg h2] at hh
  replace h2 := Bool.eq_false_iff.mpr h2
  refine zb fun K kk hK => ?_
  simp only [go_sem, h2]
  (repeat refine sd ?_)
  refine hK _ _ fun nx => ?_; clear hK K; try clear kk
  refine zk ?_; refine nmx ?_
  obtain hR := Option.some.inj hh
  subst hR
  exact zz
theorem ve (c_1 : Int) (n_2 : Int) (R : Int) (hh : qN c_1 n_2 = some R) : PC Tryd.prog 29 [.int .i64 c_1, .int .i64 n_2] (.int .i64 R) := by
 rw [qN] at hh
 refine Xf rfl ?_
 refine zb fun K kk hK => ?_
 simp only [go_sem]
 refine hK _ _ fun nx => ?_; clear hK K; try clear kk
 refine zm ?_
 refine zb fun K kk hK => ?_
 simp only [go_sem]
 refine hK _ _ fun nx => ?_; clear hK K; try clear kk
 by_cases h1 : (decide (c_1 < (0 : Int))) = true
 ·rw [if_pos h1] at hh
  refine zn (by first | exact congrArg PV.bool h1 | rfl) ?_
  refine zu fun K kk hK => ?_
  simp only [go_sem]
  refine hK _ _ fun nx => ?_; clear hK K; try clear kk
  refine nmx ?_
  obtain ⟨h2, hh⟩ := qf hh
  refine zb fun K kk hK => ?_
  simp only [go_sem, h2]
  (repeat refine sd ?_)
  refine hK _ _ fun nx => ?_; clear hK K; try clear kk
  refine zk ?_; refine nmx ?_
  obtain hR := Option.some.inj hh
  subst hR
  exact zz
 ·rw [if_neg h1] at hh
  replace h1 := Bool.eq_false_iff.mpr h1
  refine zi (by first | exact congrArg PV.bool h1 | rfl) ?_
  refine zy ?_; refine nmx ?_
  obtain ⟨h3, hh⟩ := qf hh
  refine zb fun K kk hK => ?_
  simp only [go_sem, h3]
  (repeat refine sd ?_)
  refine hK _ _ fun nx => ?_; clear hK K; try clear kk
  refine zk ?_; refine nmx ?_
  obtain hR := Option.some.inj hh
  subst hR
  exact zz
theorem J2 (a_1 : (List Str)) (b_2 : (List Str)) (R : Bool) (hh : vM a_1 b_2 = some R) : PC Tryd.prog 95 [.list 1 (a_1.map PV.str), .list 1 (b_2.map PV.str)] (.bool R) := by
 rw [vM] at hh
 refine Vv rfl ?_
 refine zb fun K kk hK => ?_
 simp only [go_sem]
 refine hK _ _ fun nx => ?_; clear hK K; try clear kk
 refine zm ?_
 refine zb fun K kk hK => ?_
 simp only [go_sem]
 refine hK _ _ fun nx => ?_; clear hK K; try clear kk
 by_cases h1 : ((a_1.length : Int) != (b_2.length : Int)) = true
 ·rw [if_pos h1] at hh
  refine zn (by first | exact congrArg PV.bool h1 | rfl) ?_
  refine zb fun K kk hK => ?_
  simp only [go_sem]
  refine hK _ _ fun nx => ?_; clear hK K; try clear kk
  refine zk ?_; refine nmx ?_
  obtain hR := Option.some.inj hh
  subst hR
  exact zz
 ·rw [if_neg h1] at hh
  replace h1 := Bool.eq_false_iff.mpr h1
  refine zi (by first | exact congrArg PV.bool h1 | rfl) ?_
  refine zy ?_; refine nmx ?_
  refine zm ?_
  refine zb fun K kk hK => ?_
  simp only [go_sem]
  refine hK _ _ fun nx => ?_; clear hK K; try clear kk
  obtain ⟨e0, f0, hh⟩ := zf hh
  obtain ⟨hlen0, f0⟩ := qf f0
  refine qp (kC (fun s => .inr () = e0 ∧ ∃ (avk : Int) (KL : Bool) (nx : Nat), s = ⟨[(0, .list 1 (a_1.map PV.str)), (1, .list 1 (b_2.map PV.str)), (5, .int .i64 avk), (14, .bool KL)], [], nx⟩))
   (fun i s => False)
   (fun s => ∃ kG, .inl kG = e0 ∧ zS Tryd.prog [.tmp 4] (.bool kG) [] .ret s) ?_ ?_ ?_ ?_
  ·refine zA ?_
   refine qd fun I hI => ?_
   have key : ∀ (suf pre : List Str) (i_5 : Int), a_1 = pre ++ suf → i_5 = (pre.length : Int) → qL b_2 suf i_5 = some e0 → ∀ (nx : Nat), I ⟨[(0, .list 1 (a_1.map PV.str)), (1, .list 1 (b_2.map PV.str)), (5, .int .i64 i_5)], [], nx⟩ := by
    intro suf
    induction suf with
    | nil =>
     intro pre i_5 hsplit hidx hh nx
     rw [qL] at hh
     refine hI _ ?_
     have h10 := walk_nil hsplit hidx
     refine zm ?_
     refine zb fun K kk hK => ?_
     simp only [go_sem]
     refine hK _ _ fun nx => ?_; clear hK K; try clear kk
     refine zi (by first | exact congrArg PV.bool h10 | rfl) ?_
     refine zU ?_; refine nmx ?_
     refine wX ?_
     refine zG ?_
     refine ⟨(Option.some.inj hh), ?_⟩
     first | exact ⟨_, _, _, rfl⟩ | (simp only [pvE, lsE, zq]; exact ⟨_, _, _, rfl⟩) | (simp only [pvE, lsE, zq, h1, h10]; exact ⟨_, _, _, rfl⟩)
    | cons y_8 suf ih =>
     intro pre i_5 hsplit hidx hh nx
     rw [qL] at hh
     refine hI _ ?_
     obtain ⟨hl0a, hl0b, hl0d, hl0w, h10⟩ := qM (f := PV.str) hsplit hidx hlen0
     refine zm ?_
     refine zb fun K kk hK => ?_
     simp only [go_sem]
     refine hK _ _ fun nx => ?_; clear hK K; try clear kk
     refine zn (by first | exact congrArg PV.bool h10 | rfl) ?_
     refine zy ?_; refine nmx ?_
     refine zm ?_
     refine zA ?_
     obtain ⟨x_9, h11, hh⟩ := zf hh
     obtain ⟨h11a, h11b, h11c⟩ := rd_some h11
     have h11d := kE (f := PV.str) h11c
     have h11f := wo (f := PV.str) h11c
     try simp only [Int.toNat_natCast, Int.reduceToNat] at h11d h11f
     refine zb fun K kk hK => ?_
     simp only [go_sem, h11a, h11b, h11d, h11f.1, h11f.2, hl0a, hl0b, hl0d, hl0w]
     (repeat refine sd ?_)
     refine hK _ _ fun nx => ?_; clear hK K; try clear kk
     by_cases h12 : (!(y_8 == x_9)) = true
     ·rw [if_pos h12] at hh
      refine zn (by first | exact congrArg PV.bool h12 | rfl) ?_
      refine zb fun K kk hK => ?_
      simp only [go_sem, hl0a, hl0b, hl0d, hl0w]
      refine hK _ _ fun nx => ?_; clear hK K; try clear kk
      refine zk ?_; refine nmx ?_
      refine yN ⟨_, (Option.some.inj hh), ?_⟩
      exact zz
     ·rw [if_neg h12] at hh
      replace h12 := Bool.eq_false_iff.mpr h12
      refine zi (by first | exact congrArg PV.bool h12 | rfl) ?_
      refine zy ?_; refine nmx ?_
      refine zu fun K kk hK => ?_
      simp only [go_sem, hl0a, hl0b, hl0d, hl0w]
      refine hK _ _ fun nx => ?_; clear hK K; try clear kk
      refine nmx ?_
      have ih' := ih (pre ++ [y_8]) (i_5 + 1) (by rw [hsplit]; simp) (by simp [hidx]) hh nx
      refine zG ?_
      first | exact ih' | (simp only [pvE, lsE, zq] at ih' ⊢; exact ih') | (simp only [pvE, lsE, zq, h1, h10, h12] at ih' ⊢; exact ih')
   exact key a_1 [] _ rfl rfl f0 _
  ·rintro s ⟨t, hless, rfl, avk, KL, nx, rfl⟩
   try dsimp only at hh
   refine nmy ?_
   first | (refine wh hless ?_; try refine ku ?_) | refine qD hless ?_ | refine qE hless ?_
   refine zb fun K kk hK => ?_
   simp only [go_sem]
   refine hK _ _ fun nx => ?_; clear hK K; try clear kk
   refine zk ?_; refine nmx ?_
   obtain hR := Option.some.inj hh
   subst hR
   exact zz
  ·intro i s h; exact h.elim
  ·rintro s ⟨kG, rfl, hb⟩
   try dsimp only at hh
   obtain hR := Option.some.inj hh
   subst hR
   refine nmx ?_
   exact hb
theorem abh (l_1 : (List za)) (R : (List za)) (hh : xZ l_1 = some R) : PC Tryd.prog 65 [.list 5 (l_1.map za.pv)] (.own 5 (R.map za.pv)) := by
 rw [xZ] at hh
 refine XJ rfl ?_
 refine zb fun K kk hK => ?_
 simp only [go_sem]
 refine hK _ _ fun nx => ?_; clear hK K; try clear kk
 refine zb fun K kk hK => ?_
 simp only [go_sem]
 refine hK _ _ fun nx => ?_; clear hK K; try clear kk
 refine zm ?_
 refine zb fun K kk hK => ?_
 simp only [go_sem]
 refine hK _ _ fun nx => ?_; clear hK K; try clear kk
 obtain ⟨e0, f0, hh⟩ := zf hh
 obtain ⟨hlen0, f0⟩ := qf f0
 refine qp (kC (fun s => ∃ afG, afG = e0 ∧ ∃ (ayU : Int) (ayF : Bool) (nx : Nat) (g3 : Nat), s = ⟨[(0, .list 5 (l_1.map za.pv)), (3, .row 3 g3 afG.length), (4, .int .i64 ayU), (10, .bool ayF)], [(3, g3, .row false 5 (afG.map za.pv))], nx⟩))
  (fun i s => False)
  (fun s => False) ?_ ?_ ?_ ?_
 ·refine zA ?_
  refine qd fun I hI => ?_
  have key : ∀ (suf pre : List za) (JI : Int) (jw : (List za)), l_1 = pre ++ suf → JI = (pre.length : Int) → qb suf JI jw = some e0 → ∀ (nx : Nat) (g3 : Nat), I ⟨[(0, .list 5 (l_1.map za.pv)), (3, .row 3 g3 jw.length), (4, .int .i64 JI)], [(3, g3, .row false 5 (jw.map za.pv))], nx⟩ := by
   intro suf
   induction suf with
   | nil =>
    intro pre JI jw hsplit hidx hh nx g3
    rw [qb] at hh
    refine hI _ ?_
    have h37 := walk_nil hsplit hidx
    refine zm ?_
    refine zb fun K kk hK => ?_
    simp only [go_sem]
    refine hK _ _ fun nx => ?_; clear hK K; try clear kk
    refine zi (by first | exact congrArg PV.bool h37 | rfl) ?_
    refine zU ?_; refine nmx ?_
    refine wX ?_
    refine zG ?_
    refine ⟨_, (Option.some.inj hh), ?_⟩
    first | exact ⟨_, _, _, _, rfl⟩ | (simp only [pvE, lsE, zq]; exact ⟨_, _, _, _, rfl⟩) | (simp only [pvE, lsE, zq, h37]; exact ⟨_, _, _, _, rfl⟩)
   | cons ZQ suf ih =>
    intro pre JI jw hsplit hidx hh nx g3
    rw [qb] at hh
    refine hI _ ?_
    obtain ⟨hl0a, hl0b, hl0d, hl0w, h37⟩ := qM (f := za.pv) hsplit hidx hlen0
    refine zm ?_
    refine zb fun K kk hK => ?_
    simp only [go_sem]
    refine hK _ _ fun nx => ?_; clear hK K; try clear kk
    refine zn (by first | exact congrArg PV.bool h37 | rfl) ?_
    refine zy ?_; refine nmx ?_
    refine zm ?_
    refine zA ?_
    refine zb fun K kk hK => ?_
    simp only [go_sem, hl0a, hl0b, hl0d, hl0w]
    refine hK _ _ fun nx => ?_; clear hK K; try clear kk
    refine zb fun K kk hK => ?_
    simp only [go_sem, hl0a, hl0b, hl0d, hl0w]
    refine hK _ _ fun nx => ?_; clear hK K; try clear kk
    refine zm ?_
    obtain ⟨e3, f3, hh⟩ := zf hh
    refine QR (fun s => .inr () = e3 ∧ ∃ (ayk : Bool) (nx : Nat) (g3 : Nat) (g5 : Nat), s = ⟨[(0, .list 5 (l_1.map za.pv)), (3, .row 3 g3 jw.length), (4, .int .i64 JI), (5, .box 5 g5 0), (6, .int .i64 (w64 ((jw.length : Int) - (1 : Int)))), (27, .bool ayk)], [(3, g3, .row false 5 (jw.map za.pv)), (5, g5, .var 28 [.str ZQ.Kind, .str ZQ.Text, .list 1 (ZQ.Marks.map PV.str), .list 2 (ZQ.zh.map ze.pv), .list 5 (ZQ.Kids.map za.pv)])], nx⟩)
     (fun i s => (i = 1 ∧ .inl () = e3 ∧ ∃ (nx : Nat) (g3 : Nat) (g5 : Nat), s = ⟨[(0, .list 5 (l_1.map za.pv)), (3, .row 3 g3 jw.length), (4, .int .i64 JI), (5, .box 5 g5 0), (6, .int .i64 (w64 ((jw.length : Int) - (1 : Int)))), (27, .bool (ZQ.Text == ([] : Str)))], [(3, g3, .row false 5 (jw.map za.pv)), (5, g5, .var 28 [.str ZQ.Kind, .str ZQ.Text, .list 1 (ZQ.Marks.map PV.str), .list 2 (ZQ.zh.map ze.pv), .list 5 (ZQ.Kids.map za.pv)])], nx⟩))
     (fun s => False) ?_ ?_ ?_ ?_
    ·have hh := f3
     by_cases h38 : (ZQ.Kind == ([116, 101, 120, 116] : Str)) = true
     ·rw [if_pos h38] at hh
      refine zb fun K kk hK => ?_
      simp only [go_sem, h38, hl0a, hl0b, hl0d, hl0w]
      (repeat refine sd ?_)
      refine hK _ _ fun nx => ?_; clear hK K; try clear kk
      by_cases h39 : (ZQ.Text == ([] : Str)) = true
      ·rw [if_pos h39] at hh
       refine zn (by first | exact congrArg PV.bool h39 | rfl) ?_
       refine zU ?_; refine nmx ?_
       refine auo ⟨rfl, (Option.some.inj hh), ?_⟩
       first | exact ⟨_, _, _, rfl⟩ | (simp only [pvE, lsE, zq]; exact ⟨_, _, _, rfl⟩) | (simp only [pvE, lsE, zq, h37, h38, h39]; exact ⟨_, _, _, rfl⟩)
      ·rw [if_neg h39] at hh
       replace h39 := Bool.eq_false_iff.mpr h39
       refine zi (by first | exact congrArg PV.bool h39 | rfl) ?_
       refine zy ?_; refine nmx ?_
       refine wX ?_
       refine zG ?_
       refine ⟨(Option.some.inj hh), ?_⟩
       first | exact ⟨_, _, _, _, rfl⟩ | (simp only [pvE, lsE, zq]; exact ⟨_, _, _, _, rfl⟩) | (simp only [pvE, lsE, zq, h37, h38, h39]; exact ⟨_, _, _, _, rfl⟩)
     ·rw [if_neg h38] at hh
      replace h38 := Bool.eq_false_iff.mpr h38
      refine zb fun K kk hK => ?_
      simp only [go_sem, h38, hl0a, hl0b, hl0d, hl0w]
      (repeat refine sd ?_)
      refine hK _ _ fun nx => ?_; clear hK K; try clear kk
      refine zi rfl ?_
      refine zy ?_; refine nmx ?_
      refine wX ?_
      refine zG ?_
      refine ⟨(Option.some.inj hh), ?_⟩
      first | exact ⟨_, _, _, _, rfl⟩ | (simp only [pvE, lsE, zq]; exact ⟨_, _, _, _, rfl⟩) | (simp only [pvE, lsE, zq, h37, h38]; exact ⟨_, _, _, _, rfl⟩)
    ·rintro s ⟨rfl, ayk, nx, g3, g5, rfl⟩
     try dsimp only at hh
     refine zm ?_
     by_cases h40 : (ZQ.Kind == ([116, 101, 120, 116] : Str)) = true
     ·rw [if_pos h40] at hh
      by_cases h41 : (decide ((w64 ((jw.length : Int) - (1 : Int))) ≥ (0 : Int))) = true
      ·rw [if_pos h41] at hh
       obtain ⟨asC, h42, hh⟩ := zf hh
       obtain ⟨h42a, h42b, h42c⟩ := rd_some h42
       have h42d := kE (f := za.pv) h42c
       have h42f := wo (f := za.pv) h42c
       try simp only [Int.toNat_natCast, Int.reduceToNat] at h42d h42f
       by_cases h43 : (asC.Kind == ([116, 101, 120, 116] : Str)) = true
       ·rw [if_pos h43] at hh
        obtain ⟨afn, h44, hh⟩ := zf hh
        refine zb fun K kk hK => ?_
        simp only [go_sem, h40, h41, of_decide_eq_true h41, h42a, h42b, h42d, h42f.1, h42f.2, h43, hl0a, hl0b, hl0d, hl0w]
        (repeat refine sd ?_)
        refine zg (J2 _ _ _ h44) (by (try simp only [go_sem, h40, h41, of_decide_eq_true h41, h42a, h42b, h42d, h42f.1, h42f.2, h43, hl0a, hl0b, hl0d, hl0w]) <;> exact wkl) (by rfl) (by rfl) ?_
        simp only [go_sem, h40, h41, of_decide_eq_true h41, h42a, h42b, h42d, h42f.1, h42f.2, h43, hl0a, hl0b, hl0d, hl0w]
        (repeat refine sd ?_)
        refine hK _ _ fun nx => ?_; clear hK K; try clear kk
        by_cases h45 : (afn) = true
        ·rw [if_pos h45] at hh
         refine zn (by first | exact congrArg PV.bool h45 | rfl) ?_
         obtain ⟨h46, hh⟩ := qf hh
         refine zb fun K kk hK => ?_
         simp only [go_sem, h42a, h42b, h42d, h42f.1, h42f.2, h46, hl0a, hl0b, hl0d, hl0w]
         (repeat refine sd ?_)
         refine hK _ _ fun nx => ?_; clear hK K; try clear kk
         obtain ⟨ayX, h47, hh⟩ := zf hh
         obtain ⟨h47a, h47c⟩ := yP h47
         have h47g := Jn h47a
         have h47d := JD (f := za.pv) h47c
         try simp only [Int.toNat_natCast, Int.reduceToNat, List.map_cons, List.map_nil, pvE] at h47d
         obtain ⟨ayl, h48, hh⟩ := zf hh
         obtain ⟨h48a, h48c⟩ := zV h48
         have h48d := qI (f := za.pv) h48c
         have h48e := qK h48c
         try simp only [List.length_cons, List.length_nil, Nat.zero_add, Nat.reduceAdd] at h48a h48e
         try simp only [h48e] at h48a
         try simp only [List.map_cons, List.map_nil, List.nil_append, List.append_nil, List.cons_append, List.singleton_append, zq, pvE] at h48d
         obtain ⟨avr, h49, hh⟩ := zf hh
         obtain ⟨h49a, h49c⟩ := zV h49
         have h49d := qI (f := za.pv) h49c
         have h49e := qK h49c
         try simp only [List.length_cons, List.length_nil, Nat.zero_add, Nat.reduceAdd] at h49a h49e
         try simp only [h49e] at h49a
         try simp only [List.map_cons, List.map_nil, List.nil_append, List.append_nil, List.cons_append, List.singleton_append, zq, pvE] at h49d
         refine zb fun K kk hK => ?_
         simp only [go_sem, h47a.1, h47a.2.1, h47a.2.2, h47d, h47g, h48a, h48d, h48e, h49a, h49d, h49e, hl0a, hl0b, hl0d, hl0w]
         (repeat refine sd ?_)
         refine hK _ _ fun nx => ?_; clear hK K; try clear kk
         refine zU ?_; refine nmx ?_
         refine zu fun K kk hK => ?_
         simp only [go_sem, hl0a, hl0b, hl0d, hl0w]
         refine hK _ _ fun nx => ?_; clear hK K; try clear kk
         refine nmx ?_
         have ih' := ih (pre ++ [ZQ]) (JI + 1) _ (by rw [hsplit]; simp) (by simp [hidx]) hh nx
         refine zG ?_
         first | exact ih' _ | (simp only [pvE, lsE, zq, h48e, h48d, h49e] at ih' ⊢; exact ih' _) | (simp only [pvE, lsE, zq, h48e, h48d, h49e, h37, h40, h41, h43, h45] at ih' ⊢; exact ih' _)
        ·rw [if_neg h45] at hh
         replace h45 := Bool.eq_false_iff.mpr h45
         refine zi (by first | exact congrArg PV.bool h45 | rfl) ?_
         refine zy ?_; refine nmx ?_
         obtain ⟨atB, h50, hh⟩ := zf hh
         obtain ⟨h50a, h50c⟩ := zV h50
         have h50d := qI (f := za.pv) h50c
         have h50e := qK h50c
         try simp only [List.length_cons, List.length_nil, Nat.zero_add, Nat.reduceAdd] at h50a h50e
         try simp only [h50e] at h50a
         try simp only [List.map_cons, List.map_nil, List.nil_append, List.append_nil, List.cons_append, List.singleton_append, zq, pvE] at h50d
         refine zu fun K kk hK => ?_
         simp only [go_sem, h50a, h50d, h50e, hl0a, hl0b, hl0d, hl0w]
         (repeat refine sd ?_)
         refine hK _ _ fun nx => ?_; clear hK K; try clear kk
         refine nmx ?_
         refine zu fun K kk hK => ?_
         simp only [go_sem, hl0a, hl0b, hl0d, hl0w]
         refine hK _ _ fun nx => ?_; clear hK K; try clear kk
         refine nmx ?_
         have ih' := ih (pre ++ [ZQ]) (JI + 1) _ (by rw [hsplit]; simp) (by simp [hidx]) hh nx
         refine zG ?_
         first | exact ih' _ | (simp only [pvE, lsE, zq, h50e] at ih' ⊢; exact ih' _) | (simp only [pvE, lsE, zq, h50e, h37, h40, h41, h43, h45] at ih' ⊢; exact ih' _)
       ·rw [if_neg h43] at hh
        replace h43 := Bool.eq_false_iff.mpr h43
        refine zb fun K kk hK => ?_
        simp only [go_sem, h40, h41, of_decide_eq_true h41, h42a, h42b, h42d, h42f.1, h42f.2, h43, hl0a, hl0b, hl0d, hl0w]
        (repeat refine sd ?_)
        refine hK _ _ fun nx => ?_; clear hK K; try clear kk
        refine zi rfl ?_
        refine zy ?_; refine nmx ?_
        obtain ⟨auk, h51, hh⟩ := zf hh
        obtain ⟨h51a, h51c⟩ := zV h51
        have h51d := qI (f := za.pv) h51c
        have h51e := qK h51c
        try simp only [List.length_cons, List.length_nil, Nat.zero_add, Nat.reduceAdd] at h51a h51e
        try simp only [h51e] at h51a
        try simp only [List.map_cons, List.map_nil, List.nil_append, List.append_nil, List.cons_append, List.singleton_append, zq, pvE] at h51d
        refine zu fun K kk hK => ?_
        simp only [go_sem, h51a, h51d, h51e, hl0a, hl0b, hl0d, hl0w]
        (repeat refine sd ?_)
        refine hK _ _ fun nx => ?_; clear hK K; try clear kk
        refine nmx ?_
        refine zu fun K kk hK => ?_
        simp only [go_sem, hl0a, hl0b, hl0d, hl0w]
        refine hK _ _ fun nx => ?_; clear hK K; try clear kk
        refine nmx ?_
        have ih' := ih (pre ++ [ZQ]) (JI + 1) _ (by rw [hsplit]; simp) (by simp [hidx]) hh nx
        refine zG ?_
        first | exact ih' _ | (simp only [pvE, lsE, zq, h51e] at ih' ⊢; exact ih' _) | (simp only [pvE, lsE, zq, h51e, h37, h40, h41, h43] at ih' ⊢; exact ih' _)
      ·rw [if_neg h41] at hh
       replace h41 := Bool.eq_false_iff.mpr h41
       refine zb fun K kk hK => ?_
       simp only [go_sem, h40, h41, of_decide_eq_false h41, hl0a, hl0b, hl0d, hl0w]
       (repeat refine sd ?_)
       refine hK _ _ fun nx => ?_; clear hK K; try clear kk
       refine zi rfl ?_
       refine zy ?_; refine nmx ?_
       obtain ⟨au3, h52, hh⟩ := zf hh
       obtain ⟨h52a, h52c⟩ := zV h52
       have h52d := qI (f := za.pv) h52c
       have h52e := qK h52c
       try simp only [List.length_cons, List.length_nil, Nat.zero_add, Nat.reduceAdd] at h52a h52e
       try simp only [h52e] at h52a
       try simp only [List.map_cons, List.map_nil, List.nil_append, List.append_nil, List.cons_append, List.singleton_append, zq, pvE] at h52d
       refine zu fun K kk hK => ?_
       simp only [go_sem, h52a, h52d, h52e, hl0a, hl0b, hl0d, hl0w]
       (repeat refine sd ?_)
       refine hK _ _ fun nx => ?_; clear hK K; try clear kk
       refine nmx ?_
       refine zu fun K kk hK => ?_
       simp only [go_sem, hl0a, hl0b, hl0d, hl0w]
       refine hK _ _ fun nx => ?_; clear hK K; try clear kk
       refine nmx ?_
       have ih' := ih (pre ++ [ZQ]) (JI + 1) _ (by rw [hsplit]; simp) (by simp [hidx]) hh nx
       refine zG ?_
       first | exact ih' _ | (simp only [pvE, lsE, zq, h52e] at ih' ⊢; exact ih' _) | (simp only [pvE, lsE, zq, h52e, h37, h40, h41] at ih' ⊢; exact ih' _)
     ·rw [if_neg h40] at hh
      replace h40 := Bool.eq_false_iff.mpr h40
      refine zb fun K kk hK => ?_
      simp only [go_sem, h40, hl0a, hl0b, hl0d, hl0w]
      (repeat refine sd ?_)
      refine hK _ _ fun nx => ?_; clear hK K; try clear kk
      refine zi rfl ?_
      refine zy ?_; refine nmx ?_
      obtain ⟨ayI, h53, hh⟩ := zf hh
      obtain ⟨h53a, h53c⟩ := zV h53
      have h53d := qI (f := za.pv) h53c
      have h53e := qK h53c
      try simp only [List.length_cons, List.length_nil, Nat.zero_add, Nat.reduceAdd] at h53a h53e
      try simp only [h53e] at h53a
      try simp only [List.map_cons, List.map_nil, List.nil_append, List.append_nil, List.cons_append, List.singleton_append, zq, pvE] at h53d
      refine zu fun K kk hK => ?_
      simp only [go_sem, h53a, h53d, h53e, hl0a, hl0b, hl0d, hl0w]
      (repeat refine sd ?_)
      refine hK _ _ fun nx => ?_; clear hK K; try clear kk
      refine nmx ?_
      refine zu fun K kk hK => ?_
      simp only [go_sem, hl0a, hl0b, hl0d, hl0w]
      refine hK _ _ fun nx => ?_; clear hK K; try clear kk
      refine nmx ?_
      have ih' := ih (pre ++ [ZQ]) (JI + 1) _ (by rw [hsplit]; simp) (by simp [hidx]) hh nx
      refine zG ?_
      first | exact ih' _ | (simp only [pvE, lsE, zq, h53e] at ih' ⊢; exact ih' _) | (simp only [pvE, lsE, zq, h53e, h37, h40] at ih' ⊢; exact ih' _)
    ·intro i s h
     obtain ⟨rfl, rfl, nx, g3, g5, rfl⟩ := h
     try dsimp only at hh
     refine nmx ?_
     refine zu fun K kk hK => ?_
     simp only [go_sem, hl0a, hl0b, hl0d, hl0w]
     refine hK _ _ fun nx => ?_; clear hK K; try clear kk
     refine nmx ?_
     have ih' := ih (pre ++ [ZQ]) (JI + 1) _ (by rw [hsplit]; simp) (by simp [hidx]) hh nx
     refine zG ?_
     first | exact ih' _ | (simp only [pvE, lsE, zq] at ih' ⊢; exact ih' _) | (simp only [pvE, lsE, zq, h37] at ih' ⊢; exact ih' _)
    ·intro s h; exact h.elim
  exact key l_1 [] _ _ rfl rfl f0 _ _
 ·rintro s ⟨t, hless, afG, rfl, ayU, ayF, nx, g3, rfl⟩
  try dsimp only at hh
  refine nmy ?_
  first | (refine wh hless ?_; try refine ku ?_) | refine qD hless ?_ | refine qE hless ?_
  refine zb fun K kk hK => ?_
  simp only [go_sem]
  refine hK _ _ fun nx => ?_; clear hK K; try clear kk
  refine zk ?_; refine nmx ?_
  obtain hR := Option.some.inj hh
  subst hR
  exact X6 (by rfl) (by rfl) (by rfl) (by simp only [List.length_map, List.length_cons, List.length_nil, Nat.zero_add, Nat.reduceAdd]) (by first | rfl | (simp only [pvE, lsE, zq]; done) | (simp only [pvE, lsE, zq]; rfl))
 ·intro i s h; exact h.elim
 ·intro s h; exact h.elim
theorem aac (x_1 : zx) (ag5 : (List za)) (R : za) (hh : jh x_1 ag5 = some R) : PC Tryd.prog 37 [.agg [.int .i64 x_1.Text, .int .i64 x_1.Marks, .int .i64 x_1.zh, .int .i64 x_1.In], .list 5 (ag5.map za.pv)] (.agg [.str R.Kind, .str R.Text, .list 1 (R.Marks.map PV.str), .list 2 (R.zh.map ze.pv), .list 5 (R.Kids.map za.pv)]) := by
 rw [jh] at hh
 refine Xe rfl ?_
 refine zb fun K kk hK => ?_
 simp only [go_sem]
 refine hK _ _ fun nx => ?_; clear hK K; try clear kk
 refine zb fun K kk hK => ?_
 simp only [go_sem]
 refine hK _ _ fun nx => ?_; clear hK K; try clear kk
 refine zb fun K kk hK => ?_
 simp only [go_sem]
 refine hK _ _ fun nx => ?_; clear hK K; try clear kk
 obtain ⟨aue, h1, hh⟩ := zf hh
 obtain ⟨x_4, h2, hh⟩ := zf hh
 obtain ⟨h2a, h2b, h2c⟩ := rd_some h2
 have h2d := kE (f := PV.str) h2c
 have h2f := wo (f := PV.str) h2c
 try simp only [Int.toNat_natCast, Int.reduceToNat] at h2d h2f
 simp only [List.length_cons, List.length_nil, List.map_cons, List.map_nil, Nat.zero_add, Nat.reduceAdd, reduceCtorEq, not_false_eq_true, and_true, pvE] at h2b h2d h2f
 obtain ⟨auu, h3, hh⟩ := zf hh
 obtain ⟨x_6, h4, hh⟩ := zf hh
 obtain ⟨h4a, h4b, h4c⟩ := rd_some h4
 have h4d := kE (f := PV.str) h4c
 have h4f := wo (f := PV.str) h4c
 try simp only [Int.toNat_natCast, Int.reduceToNat] at h4d h4f
 simp only [List.length_cons, List.length_nil, List.map_cons, List.map_nil, Nat.zero_add, Nat.reduceAdd, reduceCtorEq, not_false_eq_true, and_true, pvE] at h4b h4d h4f
 refine zb fun K kk hK => ?_
 simp only [go_sem, h2a, h2b, h2d, h4a, h4b, h4d, h2f, h4f]
 (repeat refine sd ?_)
 refine zg (ve _ _ _ h1) (by (try simp only [go_sem, h2a, h2b, h2d, h4a, h4b, h4d, h2f, h4f]) <;> exact wkl) (by rfl) (by rfl) ?_
 simp only [go_sem, h2a, h2b, h2d, h4a, h4b, h4d, h2f, h4f]
 (repeat refine sd ?_)
 refine zg (ve _ _ _ h3) (by (try simp only [go_sem, h2a, h2b, h2d, h4a, h4b, h4d, h2f, h4f]) <;> exact wkl) (by rfl) (by rfl) ?_
 simp only [go_sem, h2a, h2b, h2d, h4a, h4b, h4d, h2f, h4f]
 (repeat refine sd ?_)
 refine hK _ _ fun nx => ?_; clear hK K; try clear kk
 obtain ⟨ajb, h5, hh⟩ := zf hh
 refine zb fun K kk hK => ?_
 simp only [go_sem]
 refine zg (abh _ _ h5).list (by (try simp only [go_sem]) <;> exact wkl) (by rfl) (by rfl) ?_
 simp only [go_sem]
 refine hK _ _ fun nx => ?_; clear hK K; try clear kk
 refine zk ?_; refine nmx ?_
 obtain hR := Option.some.inj hh
 subst hR
 exact zz
end Go.Proofs.YtclohbgnaopjfaaDoor
