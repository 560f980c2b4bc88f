/- Texts of the proof of stepTokensCard -/
import Derived.Test.YtclohbgnaopjfaaGreatDoorAgC
import Derived.Test.YtclohbgnaopjfaaGreatDoorAgF
import Derived.Test.YtclohbgnaopjfaaGreatDoorAgK0
import Derived.Test.YtclohbgnaopjfaaGreatDoorAgL
namespace Go.Proofs.YtclohbgnaopjfaaGreatDoor
set_option linter.unusedSimpArgs false
set_option linter.unusedVariables false
open Go
set_option maxRecDepth 100000
theorem ang (m_1 : (List zi)) (kY : Int) (vz : Bool) (R : Int) (hh : KC m_1 kY vz = some R) : PC Tryz.prog 12 [.list 3 (m_1.map zi.pv), .int .i64 kY, .bool vz] (.int .i64 R) := by
 rw [KC] at hh
 refine ah4 rfl ?_
 refine zb fun K kk hK => ?_
 simp only [go_sem]
 refine hK _ _ fun nx => ?_; clear hK K; try clear kk
 refine ajo ?_
 refine zb fun K kk hK => ?_
 simp only [go_sem]
 refine hK _ _ fun nx => ?_; clear hK K; try clear kk
 refine zm ?_
 refine ajl ?_; refine nmx ?_
 refine zm ?_
 refine zb fun K kk hK => ?_
 simp only [go_sem]
 refine hK _ _ fun nx => ?_; clear hK K; try clear kk
 obtain ⟨e0, f0, hh⟩ := ze hh
 obtain ⟨hlen0, f0⟩ := zR f0
 refine qz (w9 (fun s => ∃ XU, .inr XU = e0 ∧ ∃ (nx : Nat), s = ⟨[(1, .int .i64 kY), (2, .bool vz), (7, .int .i64 XU)], [], nx⟩))
  (fun i s => False)
  (fun s => ∃ afY, .inl afY = e0 ∧ zZ Tryz.prog [.tmp 6] (.int .i64 afY) [] .ret s) ?_ ?_ ?_ ?_
 ·refine zC ?_
  refine qi fun I hI => ?_
  have key : ∀ (suf pre : List zi) (v_8 : Int) (Qj : Int), m_1 = pre ++ suf → v_8 = (pre.length : Int) → xX kY vz suf v_8 Qj = some e0 → ∀ (nx : Nat), I ⟨[(1, .int .i64 kY), (2, .bool vz), (7, .int .i64 Qj), (10, .list 3 (m_1.map zi.pv)), (11, .int .i64 (m_1.length : Int)), (12, .int .i64 v_8)], [], nx⟩ := by
   intro suf
   induction suf with
   | nil =>
    intro pre v_8 Qj hsplit hidx hh nx
    rw [xX] at hh
    refine hI _ ?_
    have h15 := walk_nil hsplit hidx
    refine zb fun K kk hK => ?_
    simp only [go_sem]
    refine hK _ _ fun nx => ?_; clear hK K; try clear kk
    refine zm ?_
    refine zh (by first | exact congrArg PV.bool h15 | rfl) ?_
    refine zV ?_; refine nmx ?_
    refine wU ?_
    refine ajW (acf _ [1, 2, 7] []) ?_
    refine ⟨_, (Option.some.inj hh), ?_⟩
    first | exact ⟨_, rfl⟩ | (simp only [pvE, lsE, zo]; exact ⟨_, rfl⟩) | (simp only [pvE, lsE, zo, h15]; exact ⟨_, rfl⟩)
   | cons aaj suf ih =>
    intro pre v_8 Qj hsplit hidx hh nx
    rw [xX] at hh
    refine hI _ ?_
    obtain ⟨hl0a, hl0b, hl0d, hl0w, h15⟩ := qV (f := zi.pv) hsplit hidx hlen0
    refine zb fun K kk hK => ?_
    simp only [go_sem]
    refine hK _ _ fun nx => ?_; clear hK K; try clear kk
    refine zm ?_
    refine zk (by first | exact congrArg PV.bool h15 | rfl) ?_
    refine zy ?_; refine nmx ?_
    refine zm ?_
    refine zC ?_
    refine zb fun K kk hK => ?_
    simp only [go_sem, hl0a, hl0b, hl0d, hl0w]
    refine hK _ _ fun nx => ?_; clear hK K; try clear kk
    refine zC ?_
    obtain ⟨anH, h16, hh⟩ := ze hh
    refine zb fun K kk hK => ?_
    simp only [go_sem, hl0a, hl0b, hl0d, hl0w]
    refine zg (VW _ _ h16) (by (try simp only [go_sem, hl0a, hl0b, hl0d, hl0w]) <;> exact wkl) (by rfl) (by rfl) ?_
    simp only [go_sem, hl0a, hl0b, hl0d, hl0w]
    refine hK _ _ fun nx => ?_; clear hK K; try clear kk
    by_cases h17 : (decide (anH < kY)) = true
    ·rw [if_pos h17] at hh
     refine zk (by first | exact congrArg PV.bool h17 | rfl) ?_
     refine zt fun K kk hK => ?_
     simp only [go_sem, hl0a, hl0b, hl0d, hl0w]
     refine hK _ _ fun nx => ?_; clear hK K; try clear kk
     refine nmx ?_
     refine zt fun K kk hK => ?_
     simp only [go_sem, hl0a, hl0b, hl0d, hl0w]
     refine hK _ _ fun nx => ?_; clear hK K; try clear kk
     refine nmx ?_
     have ih' := ih (pre ++ [aaj]) (v_8 + 1) _ (by rw [hsplit]; simp) (by simp [hidx]) hh nx
     refine zH ?_
     first | exact ih' | (simp only [pvE, lsE, zo] at ih' ⊢; exact ih') | (simp only [pvE, lsE, zo, h15, h17] at ih' ⊢; exact ih')
    ·rw [if_neg h17] at hh
     replace h17 := Bool.eq_false_iff.mpr h17
     refine zh (by first | exact congrArg PV.bool h17 | rfl) ?_
     refine zb fun K kk hK => ?_
     simp only [go_sem, hl0a, hl0b, hl0d, hl0w]
     refine hK _ _ fun nx => ?_; clear hK K; try clear kk
     by_cases h18 : (decide (aaj.Pos > kY)) = true
     ·rw [if_pos h18] at hh
      refine zk (by first | exact congrArg PV.bool h18 | rfl) ?_
      refine zV ?_; refine nmx ?_
      refine wU ?_
      refine ajW (acf _ [1, 2, 7] []) ?_
      refine ⟨_, (Option.some.inj hh), ?_⟩
      first | exact ⟨_, rfl⟩ | (simp only [pvE, lsE, zo]; exact ⟨_, rfl⟩) | (simp only [pvE, lsE, zo, h15, h17, h18]; exact ⟨_, rfl⟩)
     ·rw [if_neg h18] at hh
      replace h18 := Bool.eq_false_iff.mpr h18
      refine zh (by first | exact congrArg PV.bool h18 | rfl) ?_
      obtain ⟨akH, h19, hh⟩ := ze hh
      refine zb fun K kk hK => ?_
      simp only [go_sem, hl0a, hl0b, hl0d, hl0w]
      refine zg (ab0 _ _ _ _ h19) (by (try simp only [go_sem, hl0a, hl0b, hl0d, hl0w]) <;> exact wkl) (by rfl) (by rfl) ?_
      simp only [go_sem, hl0a, hl0b, hl0d, hl0w]
      refine hK _ _ fun nx => ?_; clear hK K; try clear kk
      by_cases h20 : (akH) = true
      ·rw [if_pos h20] at hh
       refine zk (by first | exact congrArg PV.bool h20 | rfl) ?_
       refine zb fun K kk hK => ?_
       simp only [go_sem, hl0a, hl0b, hl0d, hl0w]
       refine hK _ _ fun nx => ?_; clear hK K; try clear kk
       refine zn ?_; refine nmx ?_
       refine xI ⟨_, (Option.some.inj hh), ?_⟩
       exact zz
      ·rw [if_neg h20] at hh
       replace h20 := Bool.eq_false_iff.mpr h20
       refine zh (by first | exact congrArg PV.bool h20 | rfl) ?_
       refine zb fun K kk hK => ?_
       simp only [go_sem, hl0a, hl0b, hl0d, hl0w]
       refine hK _ _ fun nx => ?_; clear hK K; try clear kk
       refine zn ?_; refine nmx ?_
       refine xI ⟨_, (Option.some.inj hh), ?_⟩
       exact zz
  exact key m_1 [] _ _ rfl rfl f0 _
 ·rintro s ⟨t, hless, XU, rfl, nx, rfl⟩
  try dsimp only at hh
  refine nmy ?_
  first | (refine qW hless ?_; try refine wY ?_) | refine qC hless ?_ | refine qD hless ?_
  refine zb fun K kk hK => ?_
  simp only [go_sem]
  refine hK _ _ fun nx => ?_; clear hK K; try clear kk
  refine zn ?_; refine nmx ?_
  obtain hR := Option.some.inj hh
  subst hR
  exact zz
 ·intro i s h; exact h.elim
 ·rintro s ⟨afY, rfl, hb⟩
  try dsimp only at hh
  obtain hR := Option.some.inj hh
  subst hR
  refine nmx ?_
  exact hb
theorem aaq (s_1 : Str) (Vr : Str) (R : Bool) (hh : jm s_1 Vr = some R) : PC Tryz.prog 13 [.str s_1, .str Vr] (.bool R) := by
 rw [jm] at hh
 refine Xr rfl ?_
 refine zb fun K kk hK => ?_
 simp only [go_sem]
 refine hK _ _ fun nx => ?_; clear hK K; try clear kk
 refine zm ?_
 refine zb fun K kk hK => ?_
 simp only [go_sem]
 refine hK _ _ fun nx => ?_; clear hK K; try clear kk
 obtain ⟨e0, f0, hh⟩ := ze hh
 refine qz (w9 (fun s => .inr () = e0 ∧ ∃ (i_7 : Int) (v_8 : Bool) (nx : Nat), s = ⟨[(0, .str s_1), (1, .str Vr), (5, .int .i64 i_7), (9, .bool v_8)], [], nx⟩))
  (fun i s => False)
  (fun s => ∃ alc, .inl alc = e0 ∧ zZ Tryz.prog [.tmp 4] (.bool alc) [] .ret s) ?_ ?_ ?_ ?_
 ·refine zC ?_
  refine qi fun I hI => ?_
  obtain ⟨k, f0⟩ := jL f0
  have key : ∀ (k : Nat) (i_4 : Int), wh s_1 Vr k i_4 = some e0 → ∀ (nx : Nat), I ⟨[(0, .str s_1), (1, .str Vr), (5, .int .i64 i_4)], [], nx⟩ := by
   intro k
   induction k with
   | zero => intro i_4 hh; rw [wh] at hh; cases hh
   | succ k ih =>
    intro i_4 hh nx
    rw [wh] at hh
    refine hI _ ?_
    refine zm ?_
    refine zb fun K kk hK => ?_
    simp only [go_sem]
    refine hK _ _ fun nx => ?_; clear hK K; try clear kk
    by_cases h4 : (decide (i_4 < (s_1.length : Int))) = true
    ·rw [if_pos h4] at hh
     refine zk (by first | exact congrArg PV.bool h4 | rfl) ?_
     refine zy ?_; refine nmx ?_
     refine zm ?_
     refine zC ?_
     obtain ⟨s_5, h5, hh⟩ := ze hh
     obtain ⟨h5a, h5c⟩ := Qm h5
     have h5g := X7 h5a
     have h5d := id h5c
     try simp only [Int.toNat_natCast, Int.reduceToNat] at h5d
     refine zb fun K kk hK => ?_
     simp only [go_sem, h5a.1, h5a.2.1, h5a.2.2, h5d, h5g]
     (repeat refine sd ?_)
     refine hK _ _ fun nx => ?_; clear hK K; try clear kk
     by_cases h6 : (s_5 == Vr) = true
     ·rw [if_pos h6] at hh
      refine zk (by first | exact congrArg PV.bool h6 | rfl) ?_
      refine zb fun K kk hK => ?_
      simp only [go_sem]
      refine hK _ _ fun nx => ?_; clear hK K; try clear kk
      refine zn ?_; refine nmx ?_
      refine xI ⟨_, (Option.some.inj hh), ?_⟩
      exact zz
     ·rw [if_neg h6] at hh
      replace h6 := Bool.eq_false_iff.mpr h6
      refine zh (by first | exact congrArg PV.bool h6 | rfl) ?_
      refine zy ?_; refine nmx ?_
      refine zt fun K kk hK => ?_
      simp only [go_sem]
      refine hK _ _ fun nx => ?_; clear hK K; try clear kk
      refine nmx ?_
      have ih' := ih _ hh nx
      refine zH ?_
      first | exact ih' | (simp only [pvE, lsE, zo] at ih' ⊢; exact ih') | (simp only [pvE, lsE, zo, h4, h6] at ih' ⊢; exact ih')
    ·rw [if_neg h4] at hh
     replace h4 := Bool.eq_false_iff.mpr h4
     refine zh (by first | exact congrArg PV.bool h4 | rfl) ?_
     refine zV ?_; refine nmx ?_
     refine wU ?_
     refine zH ?_
     refine ⟨(Option.some.inj hh), ?_⟩
     first | exact ⟨_, _, _, rfl⟩ | (simp only [pvE, lsE, zo]; exact ⟨_, _, _, rfl⟩) | (simp only [pvE, lsE, zo, h4]; exact ⟨_, _, _, rfl⟩)
  exact key _ _ f0 _
 ·rintro s ⟨t, hless, rfl, i_7, v_8, nx, rfl⟩
  try dsimp only at hh
  refine nmy ?_
  first | (refine qW hless ?_; try refine wY ?_) | refine qC hless ?_ | refine qD hless ?_
  refine zb fun K kk hK => ?_
  simp only [go_sem]
  refine hK _ _ fun nx => ?_; clear hK K; try clear kk
  refine zn ?_; refine nmx ?_
  obtain hR := Option.some.inj hh
  subst hR
  exact zz
 ·intro i s h; exact h.elim
 ·rintro s ⟨alc, rfl, hb⟩
  try dsimp only at hh
  obtain hR := Option.some.inj hh
  subst hR
  refine nmx ?_
  exact hb
theorem Xm (QV : (List Str)) (WS : (List Str)) (R : Bool) (hh : slices_Equal_string QV WS = some R) : PC Tryz.prog 138 [.list 1 (QV.map PV.str), .list 1 (WS.map PV.str)] (.bool R) := by
 rw [slices_Equal_string] at hh
 refine VB rfl ?_
 refine zb fun K kk hK => ?_
 simp only [go_sem]
 refine hK _ _ fun nx => ?_; clear hK K; try clear kk
 refine zm ?_
 refine zb fun K kk hK => ?_
 simp only [go_sem]
 refine hK _ _ fun nx => ?_; clear hK K; try clear kk
 by_cases h1 : ((QV.length : Int) != (WS.length : Int)) = true
 ·rw [if_pos h1] at hh
  refine zk (by first | exact congrArg PV.bool h1 | rfl) ?_
  refine zb fun K kk hK => ?_
  simp only [go_sem]
  refine hK _ _ fun nx => ?_; clear hK K; try clear kk
  refine zn ?_; refine nmx ?_
  obtain hR := Option.some.inj hh
  subst hR
  exact zz
 ·rw [if_neg h1] at hh
  replace h1 := Bool.eq_false_iff.mpr h1
  refine zh (by first | exact congrArg PV.bool h1 | rfl) ?_
  refine zy ?_; refine nmx ?_
  refine zm ?_
  refine zb fun K kk hK => ?_
  simp only [go_sem]
  refine hK _ _ fun nx => ?_; clear hK K; try clear kk
  obtain ⟨e0, f0, hh⟩ := ze hh
  obtain ⟨hlen0, f0⟩ := zR f0
  refine qz (w9 (fun s => .inr () = e0 ∧ ∃ (KA : Int) (KU : Bool) (nx : Nat), s = ⟨[(0, .list 1 (QV.map PV.str)), (1, .list 1 (WS.map PV.str)), (12, .int .i64 (QV.length : Int)), (13, .int .i64 KA), (14, .bool KU)], [], nx⟩))
   (fun i s => False)
   (fun s => ∃ kT, .inl kT = e0 ∧ zZ Tryz.prog [.tmp 4] (.bool kT) [] .ret s) ?_ ?_ ?_ ?_
  ·refine zC ?_
   refine qi fun I hI => ?_
   have key : ∀ (suf pre : List Str) (v_5 : Int), QV = pre ++ suf → v_5 = (pre.length : Int) → qR WS suf v_5 = some e0 → ∀ (nx : Nat), I ⟨[(0, .list 1 (QV.map PV.str)), (1, .list 1 (WS.map PV.str)), (12, .int .i64 (QV.length : Int)), (13, .int .i64 v_5)], [], nx⟩ := by
    intro suf
    induction suf with
    | nil =>
     intro pre v_5 hsplit hidx hh nx
     rw [qR] at hh
     refine hI _ ?_
     have h10 := walk_nil hsplit hidx
     refine zb fun K kk hK => ?_
     simp only [go_sem]
     refine hK _ _ fun nx => ?_; clear hK K; try clear kk
     refine zm ?_
     refine zh (by first | exact congrArg PV.bool h10 | rfl) ?_
     refine zV ?_; refine nmx ?_
     refine wU ?_
     refine zH ?_
     refine ⟨(Option.some.inj hh), ?_⟩
     first | exact ⟨_, _, _, rfl⟩ | (simp only [pvE, lsE, zo]; exact ⟨_, _, _, rfl⟩) | (simp only [pvE, lsE, zo, h1, h10]; exact ⟨_, _, _, rfl⟩)
    | cons y_8 suf ih =>
     intro pre v_5 hsplit hidx hh nx
     rw [qR] at hh
     refine hI _ ?_
     obtain ⟨hl0a, hl0b, hl0d, hl0w, h10⟩ := qV (f := PV.str) hsplit hidx hlen0
     refine zb fun K kk hK => ?_
     simp only [go_sem]
     refine hK _ _ fun nx => ?_; clear hK K; try clear kk
     refine zm ?_
     refine zk (by first | exact congrArg PV.bool h10 | rfl) ?_
     refine zy ?_; refine nmx ?_
     refine zm ?_
     refine zC ?_
     refine zb fun K kk hK => ?_
     simp only [go_sem, hl0a, hl0b, hl0d, hl0w]
     refine hK _ _ fun nx => ?_; clear hK K; try clear kk
     obtain ⟨x_9, h11, hh⟩ := ze hh
     obtain ⟨h11a, h11b, h11c⟩ := rd_some h11
     have h11d := kR (f := PV.str) h11c
     have h11f := wL (f := PV.str) h11c
     try simp only [Int.toNat_natCast, Int.reduceToNat] at h11d h11f
     refine zb fun K kk hK => ?_
     simp only [go_sem, h11a, h11b, h11d, h11f.1, h11f.2, hl0a, hl0b, hl0d, hl0w]
     (repeat refine sd ?_)
     refine hK _ _ fun nx => ?_; clear hK K; try clear kk
     by_cases h12 : (!(y_8 == x_9)) = true
     ·rw [if_pos h12] at hh
      refine zk (by first | exact congrArg PV.bool h12 | rfl) ?_
      refine zb fun K kk hK => ?_
      simp only [go_sem, hl0a, hl0b, hl0d, hl0w]
      refine hK _ _ fun nx => ?_; clear hK K; try clear kk
      refine zn ?_; refine nmx ?_
      refine xI ⟨_, (Option.some.inj hh), ?_⟩
      exact zz
     ·rw [if_neg h12] at hh
      replace h12 := Bool.eq_false_iff.mpr h12
      refine zh (by first | exact congrArg PV.bool h12 | rfl) ?_
      refine zy ?_; refine nmx ?_
      refine zt fun K kk hK => ?_
      simp only [go_sem, hl0a, hl0b, hl0d, hl0w]
      refine hK _ _ fun nx => ?_; clear hK K; try clear kk
      refine nmx ?_
      have ih' := ih (pre ++ [y_8]) (v_5 + 1) (by rw [hsplit]; simp) (by simp [hidx]) hh nx
      refine zH ?_
      first | exact ih' | (simp only [pvE, lsE, zo] at ih' ⊢; exact ih') | (simp only [pvE, lsE, zo, h1, h10, h12] at ih' ⊢; exact ih')
   exact key QV [] _ rfl rfl f0 _
  ·rintro s ⟨t, hless, rfl, KA, KU, nx, rfl⟩
   try dsimp only at hh
   refine nmy ?_
   first | (refine qW hless ?_; try refine wY ?_) | refine qC hless ?_ | refine qD hless ?_
   refine zb fun K kk hK => ?_
   simp only [go_sem]
   refine hK _ _ fun nx => ?_; clear hK K; try clear kk
   refine zn ?_; refine nmx ?_
   obtain hR := Option.some.inj hh
   subst hR
   exact zz
  ·intro i s h; exact h.elim
  ·rintro s ⟨kT, rfl, hb⟩
   try dsimp only at hh
   obtain hR := Option.some.inj hh
   subst hR
   refine nmx ?_
   exact hb
theorem V5 (a_1 : za) (b_2 : za) (R : Bool) (hh : Zl a_1 b_2 = some R) : PC Tryz.prog 113 [.agg [.str a_1.Kind, .str a_1.Text, .list 1 (a_1.Marks.map PV.str), .list 2 (a_1.zq.map zf.pv), .list 5 (a_1.Kids.map za.pv)], .agg [.str b_2.Kind, .str b_2.Text, .list 1 (b_2.Marks.map PV.str), .list 2 (b_2.zq.map zf.pv), .list 5 (b_2.Kids.map za.pv)]] (.bool R) := by
 rw [Zl] at hh
 refine aea rfl ?_
 refine zb fun K kk hK => ?_
 simp only [go_sem]
 refine hK _ _ fun nx => ?_; clear hK K; try clear kk
 obtain ⟨agG, h1, hh⟩ := ze hh
 by_cases h2 : (agG) = true
 ·rw [if_pos h2] at hh
  obtain ⟨agO, h3, hh⟩ := ze hh
  by_cases h4 : (agO) = true
  ·rw [if_pos h4] at hh
   obtain ⟨alj, h5, hh⟩ := ze hh
   refine zb fun K kk hK => ?_
   simp only [go_sem, h2, h4]
   (repeat refine sd ?_)
   refine zg (kG _ _ h1) (by (try simp only [go_sem, h2, h4]) <;> exact wkl) (by rfl) (by rfl) ?_
   simp only [go_sem, h2, h4]
   (repeat refine sd ?_)
   refine zg (kG _ _ h3) (by (try simp only [go_sem, h2, h4]) <;> exact wkl) (by rfl) (by rfl) ?_
   simp only [go_sem, h2, h4]
   (repeat refine sd ?_)
   refine zg (Xm _ _ _ h5) (by (try simp only [go_sem, h2, h4]) <;> exact wkl) (by rfl) (by rfl) ?_
   simp only [go_sem, h2, h4]
   (repeat refine sd ?_)
   refine hK _ _ fun nx => ?_; clear hK K; try clear kk
   refine zn ?_; refine nmx ?_
   obtain hR := Option.some.inj hh
   subst hR
   exact zz
  ·rw [if_neg h4] at hh
   replace h4 := Bool.eq_false_iff.mpr h4
   refine zb fun K kk hK => ?_
   simp only [go_sem, h2, h4]
   (repeat refine sd ?_)
   refine zg (kG _ _ h1) (by (try simp only [go_sem, h2, h4]) <;> exact wkl) (by rfl) (by rfl) ?_
   simp only [go_sem, h2, h4]
   (repeat refine sd ?_)
   refine zg (kG _ _ h3) (by (try simp only [go_sem, h2, h4]) <;> exact wkl) (by rfl) (by rfl) ?_
   simp only [go_sem, h2, h4]
   (repeat refine sd ?_)
   refine hK _ _ fun nx => ?_; clear hK K; try clear kk
   refine zn ?_; refine nmx ?_
   obtain hR := Option.some.inj hh
   subst hR
   exact zz
 ·rw [if_neg h2] at hh
  replace h2 := Bool.eq_false_iff.mpr h2
  refine zb fun K kk hK => ?_
  simp only [go_sem, h2]
  (repeat refine sd ?_)
  refine zg (kG _ _ h1) (by (try simp only [go_sem, h2]) <;> exact wkl) (by rfl) (by rfl) ?_
  simp only [go_sem, h2]
  (repeat refine sd ?_)
  refine hK _ _ fun nx => ?_; clear hK K; try clear kk
  refine zn ?_; refine nmx ?_
  obtain hR := Option.some.inj hh
  subst hR
  exact zz
theorem afE (s : Str) (cutset : Str) (R : Str) (hh : KD s cutset = some R) : PC Tryz.prog 97 [.str s, .str cutset] (.str R) := by
 rw [KD] at hh
 exact aqP (tr := Lib.trimS) ⟨_, Tryz.func97, by kernel_rfl, by kernel_rfl⟩ (fun s c w h1 h2 h3 => Any.strings_Trim_laid Tryz.at6 (by kernel_rfl) s c w h1 h2 h3) s cutset R hh
theorem wm (s_1 : Str) (R : Bool) (hh : yz s_1 = some R) : PC Tryz.prog 52 [.str s_1] (.bool R) := by
 rw [yz] at hh
 refine afD rfl ?_
 refine zb fun K kk hK => ?_
 simp only [go_sem]
 refine hK _ _ fun nx => ?_; clear hK K; try clear kk
 obtain ⟨anG, h1, hh⟩ := ze hh
 refine zb fun K kk hK => ?_
 simp only [go_sem]
 refine zg (afE _ _ _ h1) (by (try simp only [go_sem]) <;> exact wkl) (by rfl) (by rfl) ?_
 simp only [go_sem]
 refine hK _ _ fun nx => ?_; clear hK K; try clear kk
 by_cases h2 : (anG == ([] : Str)) = true
 ·rw [if_pos h2] at hh
  by_cases h3 : (!(s_1 == ([] : Str))) = true
  ·rw [if_pos h3] at hh
   by_cases h4 : (decide ((s_1.length : Int) ≤ (8 : Int))) = true
   ·rw [if_pos h4] at hh
    refine zb fun K kk hK => ?_
    simp only [go_sem, h2, h3, h4, of_decide_eq_true h4]
    (repeat refine sd ?_)
    refine hK _ _ fun nx => ?_; clear hK K; try clear kk
    refine zn ?_; refine nmx ?_
    obtain hR := Option.some.inj hh
    subst hR
    exact zz
   ·rw [if_neg h4] at hh
    replace h4 := Bool.eq_false_iff.mpr h4
    refine zb fun K kk hK => ?_
    simp only [go_sem, h2, h3, h4, of_decide_eq_false h4]
    (repeat refine sd ?_)
    refine hK _ _ fun nx => ?_; clear hK K; try clear kk
    refine zn ?_; refine nmx ?_
    obtain hR := Option.some.inj hh
    subst hR
    exact zz
  ·rw [if_neg h3] at hh
   replace h3 := Bool.eq_false_iff.mpr h3
   refine zb fun K kk hK => ?_
   simp only [go_sem, h2, h3]
   (repeat refine sd ?_)
   refine hK _ _ fun nx => ?_; clear hK K; try clear kk
   refine zn ?_; refine nmx ?_
   obtain hR := Option.some.inj hh
   subst hR
   exact zz
 ·rw [if_neg h2] at hh
  replace h2 := Bool.eq_false_iff.mpr h2
  refine zb fun K kk hK => ?_
  simp only [go_sem, h2]
  (repeat refine sd ?_)
  refine hK _ _ fun nx => ?_; clear hK K; try clear kk
  refine zn ?_; refine nmx ?_
  obtain hR := Option.some.inj hh
  subst hR
  exact zz
theorem Xw (l_1 : (List Str)) (R : Bool) (hh : KO l_1 = some R) : PC Tryz.prog 126 [.list 1 (l_1.map PV.str)] (.bool R) := by
 rw [KO] at hh
 refine afs rfl ?_
 refine zb fun K kk hK => ?_
 simp only [go_sem]
 refine hK _ _ fun nx => ?_; clear hK K; try clear kk
 refine zm ?_
 refine zb fun K kk hK => ?_
 simp only [go_sem]
 refine hK _ _ fun nx => ?_; clear hK K; try clear kk
 obtain ⟨e0, f0, hh⟩ := ze hh
 obtain ⟨hlen0, f0⟩ := zR f0
 refine qz (w9 (fun s => .inr () = e0 ∧ ∃ (XM : Int) (QD : Bool) (nx : Nat), s = ⟨[(0, .list 1 (l_1.map PV.str)), (5, .list 1 (l_1.map PV.str)), (6, .int .i64 (l_1.length : Int)), (7, .int .i64 XM), (8, .bool QD)], [], nx⟩))
  (fun i s => False)
  (fun s => ∃ agm, .inl agm = e0 ∧ zZ Tryz.prog [.tmp 2] (.bool agm) [] .ret s) ?_ ?_ ?_ ?_
 ·refine zC ?_
  refine qi fun I hI => ?_
  have key : ∀ (suf pre : List Str) (v_5 : Int), l_1 = pre ++ suf → v_5 = (pre.length : Int) → vD l_1 suf v_5 = some e0 → ∀ (nx : Nat), I ⟨[(0, .list 1 (l_1.map PV.str)), (5, .list 1 (l_1.map PV.str)), (6, .int .i64 (l_1.length : Int)), (7, .int .i64 v_5)], [], nx⟩ := by
   intro suf
   induction suf with
   | nil =>
    intro pre v_5 hsplit hidx hh nx
    rw [vD] at hh
    refine hI _ ?_
    have h15 := walk_nil hsplit hidx
    refine zb fun K kk hK => ?_
    simp only [go_sem]
    refine hK _ _ fun nx => ?_; clear hK K; try clear kk
    refine zm ?_
    refine zh (by first | exact congrArg PV.bool h15 | rfl) ?_
    refine zV ?_; refine nmx ?_
    refine wU ?_
    refine zH ?_
    refine ⟨(Option.some.inj hh), ?_⟩
    first | exact ⟨_, _, _, rfl⟩ | (simp only [pvE, lsE, zo]; exact ⟨_, _, _, rfl⟩) | (simp only [pvE, lsE, zo, h15]; exact ⟨_, _, _, rfl⟩)
   | cons y_9 suf ih =>
    intro pre v_5 hsplit hidx hh nx
    rw [vD] at hh
    refine hI _ ?_
    obtain ⟨hl0a, hl0b, hl0d, hl0w, h15⟩ := qV (f := PV.str) hsplit hidx hlen0
    refine zb fun K kk hK => ?_
    simp only [go_sem]
    refine hK _ _ fun nx => ?_; clear hK K; try clear kk
    refine zm ?_
    refine zk (by first | exact congrArg PV.bool h15 | rfl) ?_
    refine zy ?_; refine nmx ?_
    refine zm ?_
    refine zC ?_
    refine zb fun K kk hK => ?_
    simp only [go_sem, hl0a, hl0b, hl0d, hl0w]
    refine hK _ _ fun nx => ?_; clear hK K; try clear kk
    obtain ⟨akP, h16, hh⟩ := ze hh
    by_cases h17 : (!akP) = true
    ·rw [if_pos h17] at hh
     refine zb fun K kk hK => ?_
     simp only [go_sem, h17, hl0a, hl0b, hl0d, hl0w]
     (repeat refine sd ?_)
     refine zg (wm _ _ h16) (by (try simp only [go_sem, h17, hl0a, hl0b, hl0d, hl0w]) <;> exact wkl) (by rfl) (by rfl) ?_
     simp only [go_sem, h17, hl0a, hl0b, hl0d, hl0w]
     (repeat refine sd ?_)
     refine hK _ _ fun nx => ?_; clear hK K; try clear kk
     refine zk rfl ?_
     refine zb fun K kk hK => ?_
     simp only [go_sem, hl0a, hl0b, hl0d, hl0w]
     refine hK _ _ fun nx => ?_; clear hK K; try clear kk
     refine zn ?_; refine nmx ?_
     refine xI ⟨_, (Option.some.inj hh), ?_⟩
     exact zz
    ·rw [if_neg h17] at hh
     replace h17 := Bool.eq_false_iff.mpr h17
     by_cases h18 : (decide (v_5 > (0 : Int))) = true
     ·rw [if_pos h18] at hh
      obtain ⟨al8, h19, hh⟩ := ze hh
      obtain ⟨h19a, h19b, h19c⟩ := rd_some h19
      have h19d := kR (f := PV.str) h19c
      have h19f := wL (f := PV.str) h19c
      try simp only [Int.toNat_natCast, Int.reduceToNat] at h19d h19f
      refine zb fun K kk hK => ?_
      simp only [go_sem, h17, h18, of_decide_eq_true h18, h19a, h19b, h19d, h19f.1, h19f.2, hl0a, hl0b, hl0d, hl0w]
      (repeat refine sd ?_)
      refine zg (wm _ _ h16) (by (try simp only [go_sem, h17, h18, of_decide_eq_true h18, h19a, h19b, h19d, h19f.1, h19f.2, hl0a, hl0b, hl0d, hl0w]) <;> exact wkl) (by rfl) (by rfl) ?_
      simp only [go_sem, h17, h18, of_decide_eq_true h18, h19a, h19b, h19d, h19f.1, h19f.2, hl0a, hl0b, hl0d, hl0w]
      (repeat refine sd ?_)
      refine hK _ _ fun nx => ?_; clear hK K; try clear kk
      by_cases h20 : ((Op.bytesLess y_9 al8 || y_9 == al8)) = true
      ·rw [if_pos h20] at hh
       refine zk (by first | exact congrArg PV.bool h20 | rfl) ?_
       refine zb fun K kk hK => ?_
       simp only [go_sem, hl0a, hl0b, hl0d, hl0w]
       refine hK _ _ fun nx => ?_; clear hK K; try clear kk
       refine zn ?_; refine nmx ?_
       refine xI ⟨_, (Option.some.inj hh), ?_⟩
       exact zz
      ·rw [if_neg h20] at hh
       replace h20 := Bool.eq_false_iff.mpr h20
       refine zh (by first | exact congrArg PV.bool h20 | rfl) ?_
       refine zy ?_; refine nmx ?_
       refine zt fun K kk hK => ?_
       simp only [go_sem, hl0a, hl0b, hl0d, hl0w]
       refine hK _ _ fun nx => ?_; clear hK K; try clear kk
       refine nmx ?_
       have ih' := ih (pre ++ [y_9]) (v_5 + 1) (by rw [hsplit]; simp) (by simp [hidx]) hh nx
       refine zH ?_
       first | exact ih' | (simp only [pvE, lsE, zo] at ih' ⊢; exact ih') | (simp only [pvE, lsE, zo, h15, h17, h18, h20] at ih' ⊢; exact ih')
     ·rw [if_neg h18] at hh
      replace h18 := Bool.eq_false_iff.mpr h18
      refine zb fun K kk hK => ?_
      simp only [go_sem, h17, h18, of_decide_eq_false h18, hl0a, hl0b, hl0d, hl0w]
      (repeat refine sd ?_)
      refine zg (wm _ _ h16) (by (try simp only [go_sem, h17, h18, of_decide_eq_false h18, hl0a, hl0b, hl0d, hl0w]) <;> exact wkl) (by rfl) (by rfl) ?_
      simp only [go_sem, h17, h18, of_decide_eq_false h18, hl0a, hl0b, hl0d, hl0w]
      (repeat refine sd ?_)
      refine hK _ _ fun nx => ?_; clear hK K; try clear kk
      refine zh rfl ?_
      refine zy ?_; refine nmx ?_
      refine zt fun K kk hK => ?_
      simp only [go_sem, hl0a, hl0b, hl0d, hl0w]
      refine hK _ _ fun nx => ?_; clear hK K; try clear kk
      refine nmx ?_
      have ih' := ih (pre ++ [y_9]) (v_5 + 1) (by rw [hsplit]; simp) (by simp [hidx]) hh nx
      refine zH ?_
      first | exact ih' | (simp only [pvE, lsE, zo] at ih' ⊢; exact ih') | (simp only [pvE, lsE, zo, h15, h17, h18] at ih' ⊢; exact ih')
  exact key l_1 [] _ rfl rfl f0 _
 ·rintro s ⟨t, hless, rfl, XM, QD, nx, rfl⟩
  try dsimp only at hh
  refine nmy ?_
  first | (refine qW hless ?_; try refine wY ?_) | refine qC hless ?_ | refine qD hless ?_
  refine zb fun K kk hK => ?_
  simp only [go_sem]
  refine hK _ _ fun nx => ?_; clear hK K; try clear kk
  refine zn ?_; refine nmx ?_
  obtain hR := Option.some.inj hh
  subst hR
  exact zz
 ·intro i s h; exact h.elim
 ·rintro s ⟨agm, rfl, hb⟩
  try dsimp only at hh
  obtain hR := Option.some.inj hh
  subst hR
  refine nmx ?_
  exact hb
theorem kQ (s : Str) (R : Bool) (hh : wM s = some R) : PC Tryz.prog 98 [.str s] (.bool R) := by
 rw [wM] at hh
 exact afm ⟨_, Tryz.func98, by kernel_rfl, by kernel_rfl⟩ (fun s w h1 h2 => Any.utf8_ValidString Tryz.aoG s w h1 (au2 h2)) s R hh
theorem Jh (s_1 : Str) (R : Bool) (hh : QL s_1 = some R) : PC Tryz.prog 53 [.str s_1] (.bool R) := by
 rw [QL] at hh
 refine adU rfl ?_
 refine zb fun K kk hK => ?_
 simp only [go_sem]
 refine hK _ _ fun nx => ?_; clear hK K; try clear kk
 by_cases h1 : (decide ((s_1.length : Int) ≤ (40 : Int))) = true
 ·rw [if_pos h1] at hh
  obtain ⟨amj, h2, hh⟩ := ze hh
  refine zb fun K kk hK => ?_
  simp only [go_sem, h1, of_decide_eq_true h1]
  (repeat refine sd ?_)
  refine zg (kQ _ _ h2) (by (try simp only [go_sem, h1, of_decide_eq_true h1]) <;> exact wkl) (by rfl) (by rfl) ?_
  simp only [go_sem, h1, of_decide_eq_true h1]
  (repeat refine sd ?_)
  refine hK _ _ fun nx => ?_; clear hK K; try clear kk
  refine zn ?_; refine nmx ?_
  obtain hR := Option.some.inj hh
  subst hR
  exact zz
 ·rw [if_neg h1] at hh
  replace h1 := Bool.eq_false_iff.mpr h1
  refine zb fun K kk hK => ?_
  simp only [go_sem, h1, of_decide_eq_false h1]
  (repeat refine sd ?_)
  refine hK _ _ fun nx => ?_; clear hK K; try clear kk
  refine zn ?_; refine nmx ?_
  obtain hR := Option.some.inj hh
  subst hR
  exact zz
end Go.Proofs.YtclohbgnaopjfaaGreatDoor
