/- Texts of the proof of stepTokensCard -/
import Derived.Test.YtclohbgnaopjfaaGreatDoorAgC
import Derived.Test.YtclohbgnaopjfaaGreatDoorAgF
import Derived.Test.YtclohbgnaopjfaaGreatDoorAgK2
import Derived.Test.YtclohbgnaopjfaaGreatDoorAgK3
import Derived.Test.YtclohbgnaopjfaaGreatDoorAgK4
import Derived.Test.YtclohbgnaopjfaaGreatDoorAgL
namespace Go.Proofs.YtclohbgnaopjfaaGreatDoor
set_option linter.unusedSimpArgs false
set_option linter.unusedVariables false
open Go
set_option maxRecDepth 100000
theorem agQ : ∀ kr : Nat, (∀ (n_1 : za) (wB : (List Int)) (m_3 : za) (R : (za × Int)), jI kr n_1 wB m_3 = some R → PC Tryz.prog 73 [.agg [.str n_1.Kind, .str n_1.Text, .list 1 (n_1.Marks.map PV.str), .list 2 (n_1.zq.map zf.pv), .list 5 (n_1.Kids.map za.pv)], .list 1 (wB.map (PV.int .i64)), .agg [.str m_3.Kind, .str m_3.Text, .list 1 (m_3.Marks.map PV.str), .list 2 (m_3.zq.map zf.pv), .list 5 (m_3.Kids.map za.pv)]] (.tup [.agg [.str R.1.Kind, .str R.1.Text, .list 1 (R.1.Marks.map PV.str), .list 2 (R.1.zq.map zf.pv), .list 5 (R.1.Kids.map za.pv)], .int .i64 R.2])) := by
 intro kr
 induction kr with
 | zero => exact (by intro n_1 wB m_3 R hh; rw [jI] at hh; cases hh)
 | succ kr ih =>
  have ih_place_With := ih
  clear ih
  intro n_1 wB m_3 R hh
  rw [jI] at hh
  refine ad5 rfl ?_
  refine zb fun K kk hK => ?_
  simp only [go_sem]
  refine hK _ _ fun nx => ?_; clear hK K; try clear kk
  refine zm ?_
  obtain ⟨⟨r_4, r_5⟩, h1, hh⟩ := ze hh
  dsimp only at hh
  refine zb fun K kk hK => ?_
  simp only [go_sem]
  refine zg (xZ _ _ _ h1) (by (try simp only [go_sem]) <;> exact wkl) (by rfl) (by rfl) ?_
  simp only [go_sem]
  refine hK _ _ fun nx => ?_; clear hK K; try clear kk
  refine zb fun K kk hK => ?_
  simp only [go_sem]
  refine hK _ _ fun nx => ?_; clear hK K; try clear kk
  by_cases h2 : (r_5 != (0 : Int)) = true
  ·rw [if_pos h2] at hh
   refine zk (by first | exact congrArg PV.bool h2 | rfl) ?_
   refine zb fun K kk hK => ?_
   simp only [go_sem]
   refine hK _ _ fun nx => ?_; clear hK K; try clear kk
   refine zn ?_; refine nmx ?_
   obtain hR := Option.some.inj hh
   subst hR
   exact zz
  ·rw [if_neg h2] at hh
   replace h2 := Bool.eq_false_iff.mpr h2
   refine zh (by first | exact congrArg PV.bool h2 | rfl) ?_
   refine zy ?_; refine nmx ?_
   refine zm ?_
   refine zb fun K kk hK => ?_
   simp only [go_sem]
   refine hK _ _ fun nx => ?_; clear hK K; try clear kk
   by_cases h3 : ((wB.length : Int) == (0 : Int)) = true
   ·rw [if_pos h3] at hh
    refine zk (by first | exact congrArg PV.bool h3 | rfl) ?_
    refine zb fun K kk hK => ?_
    simp only [go_sem]
    refine hK _ _ fun nx => ?_; clear hK K; try clear kk
    refine zn ?_; refine nmx ?_
    obtain hR := Option.some.inj hh
    subst hR
    exact zz
   ·rw [if_neg h3] at hh
    replace h3 := Bool.eq_false_iff.mpr h3
    refine zh (by first | exact congrArg PV.bool h3 | rfl) ?_
    refine zy ?_; refine nmx ?_
    obtain ⟨anY, h4, hh⟩ := ze hh
    refine zb fun K kk hK => ?_
    simp only [go_sem]
    refine zg (jV _ _ h4) (by (try simp only [go_sem]) <;> exact wkl) (by rfl) (by rfl) ?_
    simp only [go_sem]
    refine hK _ _ fun nx => ?_; clear hK K; try clear kk
    obtain ⟨x_7, h5, hh⟩ := ze hh
    obtain ⟨h5a, h5b, h5c⟩ := rd_some h5
    have h5d := kR (f := (PV.int .i64)) h5c
    have h5f := wL (f := (PV.int .i64)) h5c
    try simp only [Int.toNat_natCast, Int.reduceToNat] at h5d h5f
    obtain ⟨x_8, h6, hh⟩ := ze hh
    obtain ⟨h6a, h6b, h6c⟩ := rd_some h6
    have h6d := kR (f := za.pv) h6c
    have h6f := wL (f := za.pv) h6c
    try simp only [Int.toNat_natCast, Int.reduceToNat] at h6d h6f
    obtain ⟨s_9, h7, hh⟩ := ze hh
    obtain ⟨h7a, h7c⟩ := Qm h7
    have h7g := X7 h7a
    have h7d := akD (f := (PV.int .i64)) h7c
    try simp only [Int.toNat_natCast, Int.reduceToNat, List.map_cons, List.map_nil, pvE] at h7d
    obtain ⟨⟨Jm, afn⟩, h8, hh⟩ := ze hh
    dsimp only at hh
    obtain ⟨ak3, h9, hh⟩ := ze hh
    obtain ⟨h9a, h9c⟩ := aad h9
    have h9d := ad2 (f := za.pv) h9c
    try simp only [Int.toNat_natCast, Int.reduceToNat, List.map_cons, List.map_nil, List.cons_append, List.nil_append, List.singleton_append, pvE] at h9d
    have h9e := adM h9c
    have h6b_h9 := h6b; rw [h9e] at h6b_h9
    have h6f1_h9 := h6f.1; rw [h9e] at h6f1_h9
    have h6a_h9 := h6a; try rw [h9e] at h6a_h9
    have h6d_h9 := h6d; try rw [h9e] at h6d_h9
    try rw [h9e] at h9d
    have h9bw := h9a.2; rw [h9e] at h9bw
    refine zb fun K kk hK => ?_
    simp only [go_sem, h5a, h5b, h5d, h5f.1, h5f.2, h6a, h6b, h6d, h6f.1, h6f.2, h7a.1, h7a.2.1, h7a.2.2, h7d, h7g, h9a.1, h9a.2, h9d, h9e, h6b_h9, h6f1_h9, h6a_h9, h6d_h9, h9bw]
    (repeat refine sd ?_)
    refine zg (ih_place_With _ _ _ _ h8) (by (try simp only [go_sem, h5a, h5b, h5d, h5f.1, h5f.2, h6a, h6b, h6d, h6f.1, h6f.2, h7a.1, h7a.2.1, h7a.2.2, h7d, h7g, h9a.1, h9a.2, h9d, h9e, h6b_h9, h6f1_h9, h6a_h9, h6d_h9, h9bw]) <;> exact wkl) (by rfl) (by rfl) ?_
    simp only [go_sem, h5a, h5b, h5d, h5f.1, h5f.2, h6a, h6b, h6d, h6f.1, h6f.2, h7a.1, h7a.2.1, h7a.2.2, h7d, h7g, h9a.1, h9a.2, h9d, h9e, h6b_h9, h6f1_h9, h6a_h9, h6d_h9, h9bw]
    (repeat refine sd ?_)
    try simp only [go_sem, h5a, h5b, h5d, h5f.1, h5f.2, h6a, h6b, h6d, h6f.1, h6f.2, h7a.1, h7a.2.1, h7a.2.2, h7d, h7g, h9a.1, h9a.2, h9d, h9e, h6b_h9, h6f1_h9, h6a_h9, h6d_h9, h9bw]
    refine hK _ _ fun nx => ?_; clear hK K; try clear kk
    refine zb fun K kk hK => ?_
    simp only [go_sem]
    refine hK _ _ fun nx => ?_; clear hK K; try clear kk
    refine zn ?_; refine nmx ?_
    obtain hR := Option.some.inj hh
    subst hR
    exact zz
theorem abx (n_1 : za) (wB : (List Int)) (m_3 : za) (R : (za × Int)) (hh : QI n_1 wB m_3 = some R) : PC Tryz.prog 73 [.agg [.str n_1.Kind, .str n_1.Text, .list 1 (n_1.Marks.map PV.str), .list 2 (n_1.zq.map zf.pv), .list 5 (n_1.Kids.map za.pv)], .list 1 (wB.map (PV.int .i64)), .agg [.str m_3.Kind, .str m_3.Text, .list 1 (m_3.Marks.map PV.str), .list 2 (m_3.zq.map zf.pv), .list 5 (m_3.Kids.map za.pv)]] (.tup [.agg [.str R.1.Kind, .str R.1.Text, .list 1 (R.1.Marks.map PV.str), .list 2 (R.1.zq.map zf.pv), .list 5 (R.1.Kids.map za.pv)], .int .i64 R.2]) := by
 rw [QI] at hh
 obtain ⟨kr, hh⟩ := jL hh
 exact (agQ kr) _ _ _ _ hh
theorem akd (n_1 : za) (QO : Int) (adL : Int) (l_4 : (List za)) (R : (za × Int)) (hh : yn n_1 QO adL l_4 = some R) : PC Tryz.prog 36 [.agg [.str n_1.Kind, .str n_1.Text, .list 1 (n_1.Marks.map PV.str), .list 2 (n_1.zq.map zf.pv), .list 5 (n_1.Kids.map za.pv)], .int .i64 QO, .int .i64 adL, .list 5 (l_4.map za.pv)] (.tup [.agg [.str R.1.Kind, .str R.1.Text, .list 1 (R.1.Marks.map PV.str), .list 2 (R.1.zq.map zf.pv), .list 5 (R.1.Kids.map za.pv)], .int .i64 R.2]) := by
 rw [yn] at hh
 refine afq rfl ?_
 refine zb fun K kk hK => ?_
 simp only [go_sem]
 refine hK _ _ fun nx => ?_; clear hK K; try clear kk
 obtain ⟨⟨r_5, r_6⟩, h1, hh⟩ := ze hh
 dsimp only at hh
 refine zb fun K kk hK => ?_
 simp only [go_sem]
 refine zg (agU _ _ _ _ h1) (by (try simp only [go_sem]) <;> exact wkl) (by rfl) (by rfl) ?_
 simp only [go_sem]
 refine hK _ _ fun nx => ?_; clear hK K; try clear kk
 refine zm ?_
 by_cases h2 : (r_6 == (2 : Int)) = true
 ·rw [if_pos h2] at hh
  refine zb fun K kk hK => ?_
  simp only [go_sem, h2]
  (repeat refine sd ?_)
  refine hK _ _ fun nx => ?_; clear hK K; try clear kk
  refine zk rfl ?_
  refine zb fun K kk hK => ?_
  simp only [go_sem]
  refine hK _ _ fun nx => ?_; clear hK K; try clear kk
  refine zn ?_; refine nmx ?_
  obtain hR := Option.some.inj hh
  subst hR
  exact zz
 ·rw [if_neg h2] at hh
  replace h2 := Bool.eq_false_iff.mpr h2
  obtain ⟨ah3, h3, hh⟩ := ze hh
  obtain ⟨akM, h4, hh⟩ := ze hh
  refine zb fun K kk hK => ?_
  simp only [go_sem, h2]
  (repeat refine sd ?_)
  refine zg (J8 _ _ h3).list (by (try simp only [go_sem, h2]) <;> exact wkl) (by rfl) (by rfl) ?_
  simp only [go_sem, h2]
  (repeat refine sd ?_)
  refine zg (Q6 _ _ h4) (by (try simp only [go_sem, h2]) <;> exact wkl) (by rfl) (by rfl) ?_
  simp only [go_sem, h2]
  (repeat refine sd ?_)
  refine hK _ _ fun nx => ?_; clear hK K; try clear kk
  by_cases h5 : (akM == (2 : Int)) = true
  ·rw [if_pos h5] at hh
   refine zk (by first | exact congrArg PV.bool h5 | rfl) ?_
   refine zb fun K kk hK => ?_
   simp only [go_sem]
   refine hK _ _ fun nx => ?_; clear hK K; try clear kk
   refine zn ?_; refine nmx ?_
   obtain hR := Option.some.inj hh
   subst hR
   exact zz
  ·rw [if_neg h5] at hh
   replace h5 := Bool.eq_false_iff.mpr h5
   refine zh (by first | exact congrArg PV.bool h5 | rfl) ?_
   refine zy ?_; refine nmx ?_
   refine zm ?_
   refine zb fun K kk hK => ?_
   simp only [go_sem]
   refine hK _ _ fun nx => ?_; clear hK K; try clear kk
   by_cases h6 : (r_6 != (0 : Int)) = true
   ·rw [if_pos h6] at hh
    refine zk (by first | exact congrArg PV.bool h6 | rfl) ?_
    refine zb fun K kk hK => ?_
    simp only [go_sem]
    refine hK _ _ fun nx => ?_; clear hK K; try clear kk
    refine zn ?_; refine nmx ?_
    obtain hR := Option.some.inj hh
    subst hR
    exact zz
   ·rw [if_neg h6] at hh
    replace h6 := Bool.eq_false_iff.mpr h6
    refine zh (by first | exact congrArg PV.bool h6 | rfl) ?_
    refine zy ?_; refine nmx ?_
    obtain ⟨⟨r_9, Jm, afn⟩, h7, hh⟩ := ze hh
    dsimp only at hh
    refine zb fun K kk hK => ?_
    simp only [go_sem]
    refine zg (YK _ _ _ h7) (by (try simp only [go_sem]) <;> exact wkl) (by rfl) (by rfl) ?_
    simp only [go_sem]
    refine hK _ _ fun nx => ?_; clear hK K; try clear kk
    obtain ⟨⟨akE, amC, ajY⟩, h8, hh⟩ := ze hh
    dsimp only at hh
    refine zb fun K kk hK => ?_
    simp only [go_sem]
    refine zg (YK _ _ _ h8) (by (try simp only [go_sem]) <;> exact wkl) (by rfl) (by rfl) ?_
    simp only [go_sem]
    refine hK _ _ fun nx => ?_; clear hK K; try clear kk
    obtain ⟨ao9, h9, hh⟩ := ze hh
    obtain ⟨ape, h10, hh⟩ := ze hh
    refine zb fun K kk hK => ?_
    simp only [go_sem]
    refine zg (Vv _ _ h9).list (by (try simp only [go_sem]) <;> exact wkl) (by rfl) (by rfl) ?_
    simp only [go_sem]
    refine zg (J8 _ _ h10).list (by (try simp only [go_sem]) <;> exact wkl) (by rfl) (by rfl) ?_
    simp only [go_sem]
    refine hK _ _ fun nx => ?_; clear hK K; try clear kk
    obtain ⟨⟨asx, atT⟩, h11, hh⟩ := ze hh
    dsimp only at hh
    refine zb fun K kk hK => ?_
    simp only [go_sem]
    refine zg (abx _ _ _ _ h11) (by (try simp only [go_sem]) <;> exact wkl) (by rfl) (by rfl) ?_
    simp only [go_sem]
    refine hK _ _ fun nx => ?_; clear hK K; try clear kk
    refine zm ?_
    obtain ⟨ab6, h12, hh⟩ := ze hh
    refine zb fun K kk hK => ?_
    simp only [go_sem]
    refine zg (Q6 _ _ h12) (by (try simp only [go_sem]) <;> exact wkl) (by rfl) (by rfl) ?_
    simp only [go_sem]
    refine hK _ _ fun nx => ?_; clear hK K; try clear kk
    refine zb fun K kk hK => ?_
    simp only [go_sem]
    refine hK _ _ fun nx => ?_; clear hK K; try clear kk
    by_cases h13 : (ab6 != (0 : Int)) = true
    ·rw [if_pos h13] at hh
     refine zk (by first | exact congrArg PV.bool h13 | rfl) ?_
     refine zb fun K kk hK => ?_
     simp only [go_sem]
     refine hK _ _ fun nx => ?_; clear hK K; try clear kk
     refine zn ?_; refine nmx ?_
     obtain hR := Option.some.inj hh
     subst hR
     exact zz
    ·rw [if_neg h13] at hh
     replace h13 := Bool.eq_false_iff.mpr h13
     refine zh (by first | exact congrArg PV.bool h13 | rfl) ?_
     refine zy ?_; refine nmx ?_
     refine zb fun K kk hK => ?_
     simp only [go_sem]
     refine hK _ _ fun nx => ?_; clear hK K; try clear kk
     refine zn ?_; refine nmx ?_
     obtain hR := Option.some.inj hh
     subst hR
     exact zz
theorem aao (l : (List Int)) (R : (List Int)) (hh : slices_Clone_int l = some R) : PC Tryz.prog 116 [.list 1 (l.map (PV.int .i64))] (.own 1 (R.map (PV.int .i64))) := by
 rw [slices_Clone_int] at hh
 obtain ⟨ha, hb⟩ := zX hh
 rw [List.nil_append] at hb
 subst hb
 try simp only [List.length_nil, Nat.zero_add] at ha
 refine Xi rfl ?_
 refine zb fun K kk hK => ?_
 simp only [go_sem]
 refine hK _ _ fun nx => ?_; clear hK K; try clear kk
 refine zb fun K kk hK => ?_
 simp only [go_sem]
 refine ⟨fun hnil => hK _ _ fun nx => ?_, hK _ _ fun nx => ?_⟩ <;> (clear hK K; try clear kk)
 ·have hl : l = [] := by simpa using hnil
  subst hl
  first | refine zk rfl ?_ | (refine zm ?_; refine zk rfl ?_)
  refine zb fun K kk hK => ?_
  simp only [go_sem]
  refine hK _ _ fun nx => ?_; clear hK K; try clear kk
  refine zn ?_; refine nmx ?_
  exact YS rfl
 ·first | refine zh rfl ?_ | (refine zm ?_; refine zh rfl ?_)
  refine zy ?_; refine nmx ?_
  refine zb fun K kk hK => ?_
  simp only [go_sem, ha]
  refine hK _ _ fun nx => ?_; clear hK K; try clear kk
  refine zn ?_; refine nmx ?_
  exact Xc (by rfl) (by rfl) (by rfl) (by simp) (by rfl)
theorem agx (n_1 : za) (kY : Int) (R : ((List Int) × Bool)) (hh : xu n_1 kY = some R) : PC Tryz.prog 74 [.agg [.str n_1.Kind, .str n_1.Text, .list 1 (n_1.Marks.map PV.str), .list 2 (n_1.zq.map zf.pv), .list 5 (n_1.Kids.map za.pv)], .int .i64 kY] (.tup [.list 1 (R.1.map (PV.int .i64)), .bool R.2]) := by
 rw [xu] at hh
 refine acU rfl ?_
 refine zb fun K kk hK => ?_
 simp only [go_sem]
 refine hK _ _ fun nx => ?_; clear hK K; try clear kk
 refine zm ?_
 refine zb fun K kk hK => ?_
 simp only [go_sem]
 refine hK _ _ fun nx => ?_; clear hK K; try clear kk
 by_cases h1 : (kY == (-1 : Int)) = true
 ·rw [if_pos h1] at hh
  refine zk (by first | exact congrArg PV.bool h1 | rfl) ?_
  refine zb fun K kk hK => ?_
  simp only [go_sem]
  refine hK _ _ fun nx => ?_; clear hK K; try clear kk
  refine zn ?_; refine nmx ?_
  obtain hR := Option.some.inj hh
  subst hR
  exact zz
 ·rw [if_neg h1] at hh
  replace h1 := Bool.eq_false_iff.mpr h1
  refine zh (by first | exact congrArg PV.bool h1 | rfl) ?_
  refine zy ?_; refine nmx ?_
  obtain ⟨⟨r_3, r_4⟩, h2, hh⟩ := ze hh
  dsimp only at hh
  refine zb fun K kk hK => ?_
  simp only [go_sem]
  refine zg (QP _ _ _ h2) (by (try simp only [go_sem]) <;> exact wkl) (by rfl) (by rfl) ?_
  simp only [go_sem]
  refine hK _ _ fun nx => ?_; clear hK K; try clear kk
  refine zm ?_
  by_cases h3 : (r_4 != (0 : Int)) = true
  ·rw [if_pos h3] at hh
   refine zb fun K kk hK => ?_
   simp only [go_sem, h3]
   (repeat refine sd ?_)
   refine hK _ _ fun nx => ?_; clear hK K; try clear kk
   refine zk rfl ?_
   refine zb fun K kk hK => ?_
   simp only [go_sem]
   refine hK _ _ fun nx => ?_; clear hK K; try clear kk
   refine zn ?_; refine nmx ?_
   obtain hR := Option.some.inj hh
   subst hR
   exact zz
  ·rw [if_neg h3] at hh
   replace h3 := Bool.eq_false_iff.mpr h3
   refine zb fun K kk hK => ?_
   simp only [go_sem, h3]
   (repeat refine sd ?_)
   refine hK _ _ fun nx => ?_; clear hK K; try clear kk
   by_cases h4 : (decide (r_3.Offset > (0 : Int))) = true
   ·rw [if_pos h4] at hh
    refine zk (by first | exact congrArg PV.bool h4 | rfl) ?_
    refine zb fun K kk hK => ?_
    simp only [go_sem]
    refine hK _ _ fun nx => ?_; clear hK K; try clear kk
    refine zn ?_; refine nmx ?_
    obtain hR := Option.some.inj hh
    subst hR
    exact zz
   ·rw [if_neg h4] at hh
    replace h4 := Bool.eq_false_iff.mpr h4
    refine zh (by first | exact congrArg PV.bool h4 | rfl) ?_
    refine zy ?_; refine nmx ?_
    obtain ⟨auy, h5, hh⟩ := ze hh
    obtain ⟨l_6, h6, hh⟩ := ze hh
    obtain ⟨h6a, h6c⟩ := zX h6
    have h6d := qF (f := (PV.int .i64)) h6c
    have h6e := qE h6c
    try simp only [List.length_cons, List.length_nil, Nat.zero_add, Nat.reduceAdd] at h6a h6e
    try simp only [h6e] at h6a
    try simp only [List.map_cons, List.map_nil, List.nil_append, List.append_nil, List.cons_append, List.singleton_append, zo, pvE] at h6d
    refine zb fun K kk hK => ?_
    simp only [go_sem, h6a, h6d, h6e]
    (repeat refine sd ?_)
    refine abE [] (by decide) (by decide) (aao _ _ h5) (by (try simp only [go_sem, h6a, h6d, h6e, h1, h3, h4]) <;> exact wkb) (by rfl) (by rfl) ?_
    simp only [go_sem, h6a, h6d, h6e]
    (repeat refine sd ?_)
    refine hK _ _ fun nx => ?_; clear hK K; try clear kk
    obtain ⟨⟨r_7, r_8⟩, h7, hh⟩ := ze hh
    dsimp only at hh
    refine zb fun K kk hK => ?_
    simp only [go_sem]
    refine zg (xZ _ _ _ h7) (by (try simp only [go_sem]) <;> exact wkl) (by rfl) (by rfl) ?_
    simp only [go_sem]
    refine hK _ _ fun nx => ?_; clear hK K; try clear kk
    refine zb fun K kk hK => ?_
    simp only [go_sem]
    refine hK _ _ fun nx => ?_; clear hK K; try clear kk
    refine zn ?_; refine nmx ?_
    obtain hR := Option.some.inj hh
    subst hR
    exact zz
theorem afF (a_1 : zf) (qU : zG) (R : Bool) (hh : KJ a_1 qU = some R) : BC Tryz.prog 77 [.agg [.str a_1.Name, .str a_1.Value], .box 1000 0 0] [.var 31 [.int .u8 qU.Kind, .int .i64 qU.From, .int .i64 qU.To, .list 5 (qU.wJ.map za.pv), .str qU.Name, .str qU.Value]] (.bool R) [.var 31 [.int .u8 qU.Kind, .int .i64 qU.From, .int .i64 qU.To, .list 5 (qU.wJ.map za.pv), .str qU.Name, .str qU.Value]] := by
 rw [KJ] at hh
 refine abB rfl rfl rfl ?_
 refine zb fun K kk hK => ?_
 simp only [go_sem]
 refine hK _ _ fun nx => ?_; clear hK K; try clear kk
 refine zb fun K kk hK => ?_
 simp only [go_sem]
 refine hK _ _ fun nx => ?_; clear hK K; try clear kk
 refine zn ?_; refine nmx ?_
 obtain hR := Option.some.inj hh
 subst hR
 refine ji ?_ (by rfl) ?_
 ·simp only [go_sem, wX, j6, kW, vY, ZM, List.map_cons, List.map_append, List.head?_cons]
  all_goals exact wkw
 ·(try simp only [go_sem]); (try simp only [List.length_append, List.map_append]); all_goals exact wkb
theorem QM (s_1 : (List zf)) (qU : zG) (R : (Int × zG)) (hh : qA s_1 qU = some R) : BC Tryz.prog 76 [.list 2 (s_1.map zf.pv), .fn 77 [.box 1000 0 0]] [.var 31 [.int .u8 qU.Kind, .int .i64 qU.From, .int .i64 qU.To, .list 5 (qU.wJ.map za.pv), .str qU.Name, .str qU.Value]] (.int .i64 R.1) [.var 31 [.int .u8 R.2.Kind, .int .i64 R.2.From, .int .i64 R.2.To, .list 5 (R.2.wJ.map za.pv), .str R.2.Name, .str R.2.Value]] := by
 rw [qA] at hh
 refine ZN rfl rfl rfl ?_
 refine zb fun K kk hK => ?_
 simp only [go_sem]
 refine hK _ _ fun nx => ?_; clear hK K; try clear kk
 refine zm ?_
 refine zb fun K kk hK => ?_
 simp only [go_sem]
 refine hK _ _ fun nx => ?_; clear hK K; try clear kk
 obtain ⟨e0, f0, hh⟩ := ze hh
 obtain ⟨hlen0, f0⟩ := zR f0
 refine qz (w9 (fun s => .inr () = e0 ∧ ∃ (KA : Int) (KU : Bool) (nx : Nat), s = ⟨[(0, .list 2 (s_1.map zf.pv)), (1, .fn 77 [.box 1000 0 0]), (7, .int .i64 (s_1.length : Int)), (8, .int .i64 KA), (9, .bool KU)], [(1000, 0, .var 31 [.int .u8 qU.Kind, .int .i64 qU.From, .int .i64 qU.To, .list 5 (qU.wJ.map za.pv), .str qU.Name, .str qU.Value])], nx⟩))
  (fun i s => False)
  (fun s => ∃ kT, .inl kT = e0 ∧ zZ Tryz.prog [.tmp 4] (.int .i64 kT.1) [.var 31 [.int .u8 kT.2.Kind, .int .i64 kT.2.From, .int .i64 kT.2.To, .list 5 (kT.2.wJ.map za.pv), .str kT.2.Name, .str kT.2.Value]] .ret s) ?_ ?_ ?_ ?_
 ·refine zC ?_
  refine qi fun I hI => ?_
  have key : ∀ (suf pre : List zf) (v_5 : Int), s_1 = pre ++ suf → v_5 = (pre.length : Int) → zY qU suf v_5 = some e0 → ∀ (nx : Nat), I ⟨[(0, .list 2 (s_1.map zf.pv)), (1, .fn 77 [.box 1000 0 0]), (7, .int .i64 (s_1.length : Int)), (8, .int .i64 v_5)], [(1000, 0, .var 31 [.int .u8 qU.Kind, .int .i64 qU.From, .int .i64 qU.To, .list 5 (qU.wJ.map za.pv), .str qU.Name, .str qU.Value])], nx⟩ := by
   intro suf
   induction suf with
   | nil =>
    intro pre v_5 hsplit hidx hh nx
    rw [zY] at hh
    refine hI _ ?_
    have h9 := walk_nil hsplit hidx
    refine zb fun K kk hK => ?_
    simp only [go_sem]
    refine hK _ _ fun nx => ?_; clear hK K; try clear kk
    refine zm ?_
    refine zh (by first | exact congrArg PV.bool h9 | rfl) ?_
    refine zV ?_; refine nmx ?_
    refine wU ?_
    refine zH ?_
    refine ⟨(Option.some.inj hh), ?_⟩
    first | exact ⟨_, _, _, rfl⟩ | (simp only [pvE, lsE, zo]; exact ⟨_, _, _, rfl⟩) | (simp only [pvE, lsE, zo, h9]; exact ⟨_, _, _, rfl⟩)
   | cons y_8 suf ih =>
    intro pre v_5 hsplit hidx hh nx
    rw [zY] at hh
    refine hI _ ?_
    obtain ⟨hl0a, hl0b, hl0d, hl0w, h9⟩ := qV (f := zf.pv) hsplit hidx hlen0
    refine zb fun K kk hK => ?_
    simp only [go_sem]
    refine hK _ _ fun nx => ?_; clear hK K; try clear kk
    refine zm ?_
    refine zk (by first | exact congrArg PV.bool h9 | rfl) ?_
    refine zy ?_; refine nmx ?_
    refine zm ?_
    refine zC ?_
    refine zb fun K kk hK => ?_
    simp only [go_sem, hl0a, hl0b, hl0d, hl0w]
    refine hK _ _ fun nx => ?_; clear hK K; try clear kk
    obtain ⟨auS, h10, hh⟩ := ze hh
    refine zb fun K kk hK => ?_
    simp only [go_sem, hl0a, hl0b, hl0d, hl0w]
    refine Q4 [1000] (by decide) (afF _ _ _ h10) (by (try simp only [go_sem, hl0a, hl0b, hl0d, hl0w, h9]) <;> exact wkb) (by rfl) ?_
    simp only [go_sem, hl0a, hl0b, hl0d, hl0w]
    refine hK _ _ fun nx => ?_; clear hK K; try clear kk
    by_cases h11 : (auS) = true
    ·rw [if_pos h11] at hh
     refine zk (by first | exact congrArg PV.bool h11 | rfl) ?_
     refine zb fun K kk hK => ?_
     simp only [go_sem, hl0a, hl0b, hl0d, hl0w]
     refine hK _ _ fun nx => ?_; clear hK K; try clear kk
     refine zn ?_; refine nmx ?_
     refine xI ⟨_, (Option.some.inj hh), ?_⟩
     refine ji ?_ (by rfl) ?_
     ·simp only [go_sem, wX, j6, kW, vY, ZM, List.map_cons, List.map_append, List.head?_cons, h11, h9]
      all_goals exact wkw
     ·(try simp only [go_sem, h11, h9]); (try simp only [List.length_append, List.map_append]); all_goals exact wkb
    ·rw [if_neg h11] at hh
     replace h11 := Bool.eq_false_iff.mpr h11
     refine zh (by first | exact congrArg PV.bool h11 | rfl) ?_
     refine zy ?_; refine nmx ?_
     refine zt fun K kk hK => ?_
     simp only [go_sem, hl0a, hl0b, hl0d, hl0w]
     refine hK _ _ fun nx => ?_; clear hK K; try clear kk
     refine nmx ?_
     have ih' := ih (pre ++ [y_8]) (v_5 + 1) (by rw [hsplit]; simp) (by simp [hidx]) hh nx
     refine zH ?_
     first | exact ih' | (simp only [pvE, lsE, zo] at ih' ⊢; exact ih') | (simp only [pvE, lsE, zo, h11, h9] at ih' ⊢; exact ih')
  exact key s_1 [] _ rfl rfl f0 _
 ·rintro s ⟨t, hless, rfl, KA, KU, nx, rfl⟩
  try dsimp only at hh
  refine nmy ?_
  first | (refine qW hless ?_; try refine wY ?_) | refine qC hless ?_ | refine qD hless ?_
  refine zb fun K kk hK => ?_
  simp only [go_sem]
  refine hK _ _ fun nx => ?_; clear hK K; try clear kk
  refine zn ?_; refine nmx ?_
  obtain hR := Option.some.inj hh
  subst hR
  refine ji ?_ (by rfl) ?_
  ·simp only [go_sem, wX, j6, kW, vY, ZM, List.map_cons, List.map_append, List.head?_cons]
   all_goals exact wkw
  ·(try simp only [go_sem]); (try simp only [List.length_append, List.map_append]); all_goals exact wkb
 ·intro i s h; exact h.elim
 ·rintro s ⟨kT, rfl, hb⟩
  try dsimp only at hh
  obtain hR := Option.some.inj hh
  subst hR
  refine nmx ?_
  exact hb
theorem Jf (l : (List zf)) (R : (List zf)) (hh : vg l = some R) : PC Tryz.prog 78 [.list 2 (l.map zf.pv)] (.own 2 (R.map zf.pv)) := by
 rw [vg] at hh
 obtain ⟨ha, hb⟩ := zX hh
 rw [List.nil_append] at hb
 subst hb
 try simp only [List.length_nil, Nat.zero_add] at ha
 refine KE rfl ?_
 refine zb fun K kk hK => ?_
 simp only [go_sem]
 refine hK _ _ fun nx => ?_; clear hK K; try clear kk
 refine zb fun K kk hK => ?_
 simp only [go_sem]
 refine ⟨fun hnil => hK _ _ fun nx => ?_, hK _ _ fun nx => ?_⟩ <;> (clear hK K; try clear kk)
 ·have hl : l = [] := by simpa using hnil
  subst hl
  first | refine zk rfl ?_ | (refine zm ?_; refine zk rfl ?_)
  refine zb fun K kk hK => ?_
  simp only [go_sem]
  refine hK _ _ fun nx => ?_; clear hK K; try clear kk
  refine zn ?_; refine nmx ?_
  exact YS rfl
 ·first | refine zh rfl ?_ | (refine zm ?_; refine zh rfl ?_)
  refine zy ?_; refine nmx ?_
  refine zb fun K kk hK => ?_
  simp only [go_sem, ha]
  refine hK _ _ fun nx => ?_; clear hK K; try clear kk
  refine zn ?_; refine nmx ?_
  exact Xc (by rfl) (by rfl) (by rfl) (by simp) (by rfl)
theorem ak6 (n_1 : za) (s_2 : zG) (R : (za × Str × Int)) (hh : xe n_1 s_2 = some R) : PC Tryz.prog 37 [.agg [.str n_1.Kind, .str n_1.Text, .list 1 (n_1.Marks.map PV.str), .list 2 (n_1.zq.map zf.pv), .list 5 (n_1.Kids.map za.pv)], .agg [.int .u8 s_2.Kind, .int .i64 s_2.From, .int .i64 s_2.To, .list 5 (s_2.wJ.map za.pv), .str s_2.Name, .str s_2.Value]] (.tup [.agg [.str R.1.Kind, .str R.1.Text, .list 1 (R.1.Marks.map PV.str), .list 2 (R.1.zq.map zf.pv), .list 5 (R.1.Kids.map za.pv)], .str R.2.1, .int .i64 R.2.2]) := by
 rw [xe] at hh
 refine ahU rfl ?_
 refine zb fun K kk hK => ?_
 simp only [go_sem]
 refine hK _ _ fun nx => ?_; clear hK K; try clear kk
 obtain ⟨⟨r_3, r_4⟩, h1, hh⟩ := ze hh
 dsimp only at hh
 refine zb fun K kk hK => ?_
 simp only [go_sem]
 refine zg (agx _ _ _ h1) (by (try simp only [go_sem]) <;> exact wkl) (by rfl) (by rfl) ?_
 simp only [go_sem]
 refine hK _ _ fun nx => ?_; clear hK K; try clear kk
 refine zm ?_
 refine zb fun K kk hK => ?_
 simp only [go_sem]
 refine hK _ _ fun nx => ?_; clear hK K; try clear kk
 by_cases h2 : (!r_4) = true
 ·rw [if_pos h2] at hh
  refine zk (by first | exact congrArg PV.bool h2 | rfl) ?_
  refine zb fun K kk hK => ?_
  simp only [go_sem]
  refine hK _ _ fun nx => ?_; clear hK K; try clear kk
  refine zn ?_; refine nmx ?_
  obtain hR := Option.some.inj hh
  subst hR
  exact zz
 ·rw [if_neg h2] at hh
  replace h2 := Bool.eq_false_iff.mpr h2
  refine zh (by first | exact congrArg PV.bool h2 | rfl) ?_
  refine zy ?_; refine nmx ?_
  obtain ⟨⟨r_5, r_6⟩, h3, hh⟩ := ze hh
  dsimp only at hh
  refine zb fun K kk hK => ?_
  simp only [go_sem]
  refine zg (xZ _ _ _ h3) (by (try simp only [go_sem]) <;> exact wkl) (by rfl) (by rfl) ?_
  simp only [go_sem]
  refine hK _ _ fun nx => ?_; clear hK K; try clear kk
  obtain ⟨⟨r_7, asg⟩, h4, hh⟩ := ze hh
  dsimp only at hh
  refine zb fun K kk hK => ?_
  simp only [go_sem]
  refine Q4 [3] (by decide) (QM _ _ _ h4) (by (try simp only [go_sem, h2]) <;> exact wkb) (by rfl) ?_
  simp only [go_sem]
  refine hK _ _ fun nx => ?_; clear hK K; try clear kk
  refine zm ?_
  refine zb fun K kk hK => ?_
  simp only [go_sem]
  refine hK _ _ fun nx => ?_; clear hK K; try clear kk
  by_cases h5 : (decide (r_7 < (0 : Int))) = true
  ·rw [if_pos h5] at hh
   refine zk (by first | exact congrArg PV.bool h5 | rfl) ?_
   refine zb fun K kk hK => ?_
   simp only [go_sem]
   refine hK _ _ fun nx => ?_; clear hK K; try clear kk
   refine zn ?_; refine nmx ?_
   obtain hR := Option.some.inj hh
   subst hR
   exact zz
  ·rw [if_neg h5] at hh
   replace h5 := Bool.eq_false_iff.mpr h5
   refine zh (by first | exact congrArg PV.bool h5 | rfl) ?_
   refine zy ?_; refine nmx ?_
   obtain ⟨x_9, h6, hh⟩ := ze hh
   obtain ⟨h6a, h6b, h6c⟩ := rd_some h6
   have h6d := kR (f := zf.pv) h6c
   have h6f := wL (f := zf.pv) h6c
   try simp only [Int.toNat_natCast, Int.reduceToNat] at h6d h6f
   refine zb fun K kk hK => ?_
   simp only [go_sem, h6a, h6b, h6d, h6f.1, h6f.2]
   (repeat refine sd ?_)
   refine hK _ _ fun nx => ?_; clear hK K; try clear kk
   obtain ⟨akj, h7, hh⟩ := ze hh
   refine zb fun K kk hK => ?_
   simp only [go_sem]
   refine zg (Jf _ _ h7) (by (try simp only [go_sem]) <;> exact wkl) (by rfl) (by rfl) ?_
   simp only [go_sem]
   refine hK _ _ fun nx => ?_; clear hK K; try clear kk
   obtain ⟨al8, h8, hh⟩ := ze hh
   obtain ⟨h8a, h8b, h8c⟩ := rd_some h8
   have h8d := kR (f := zf.pv) h8c
   have h8f := wL (f := zf.pv) h8c
   try simp only [Int.toNat_natCast, Int.reduceToNat] at h8d h8f
   obtain ⟨ak3, h9, hh⟩ := ze hh
   obtain ⟨h9a, h9c⟩ := aad h9
   have h9d := ad2 (f := zf.pv) h9c
   try simp only [Int.toNat_natCast, Int.reduceToNat, List.map_cons, List.map_nil, List.cons_append, List.nil_append, List.singleton_append, pvE] at h9d
   have h9e := adM h9c
   have h8b_h9 := h8b; rw [h9e] at h8b_h9
   have h8f1_h9 := h8f.1; rw [h9e] at h8f1_h9
   have h8a_h9 := h8a; try rw [h9e] at h8a_h9
   have h8d_h9 := h8d; try rw [h9e] at h8d_h9
   try rw [h9e] at h9d
   have h9bw := h9a.2; rw [h9e] at h9bw
   refine zb fun K kk hK => ?_
   simp only [go_sem, h8a, h8b, h8d, h8f.1, h8f.2, h9a.1, h9a.2, h9d, h9e, h8b_h9, h8f1_h9, h8a_h9, h8d_h9, h9bw]
   (repeat refine sd ?_)
   try simp only [go_sem, h8a, h8b, h8d, h8f.1, h8f.2, h9a.1, h9a.2, h9d, h9e, h8b_h9, h8f1_h9, h8a_h9, h8d_h9, h9bw]
   refine hK _ _ fun nx => ?_; clear hK K; try clear kk
   obtain ⟨⟨amC, ajY⟩, h10, hh⟩ := ze hh
   dsimp only at hh
   refine zb fun K kk hK => ?_
   simp only [go_sem]
   refine zg (abx _ _ _ _ h10) (by (try simp only [go_sem]) <;> exact wkl) (by rfl) (by rfl) ?_
   simp only [go_sem]
   refine hK _ _ fun nx => ?_; clear hK K; try clear kk
   refine zb fun K kk hK => ?_
   simp only [go_sem]
   refine hK _ _ fun nx => ?_; clear hK K; try clear kk
   refine zn ?_; refine nmx ?_
   obtain hR := Option.some.inj hh
   subst hR
   exact zz
theorem acK (s : zG) (marks : (List Str)) (R : ((List Str) × Bool)) (hh : Qc s marks = some R) : PC Tryz.prog 139 [.agg [.int .u8 s.Kind, .int .i64 s.From, .int .i64 s.To, .list 5 (s.wJ.map za.pv), .str s.Name, .str s.Value], .list 1 (marks.map PV.str)] (.tup [.list 1 (R.1.map PV.str), .bool R.2]) := by
 rw [Qc] at hh
 exact asF s marks R hh
theorem JY (V6 : Int) (aqk : Int) (vH : Int) (zA : Int) (jw : Int) (kF : (List za)) (vG : Str) (kC : Str) (l_9 : (List zi)) (R : (Int × Int × Int × (List za) × Str × Str × (List zi))) (hh : vX V6 aqk vH zA jw kF vG kC l_9 = some R) : BC Tryz.prog 140 [.box 1000 0 0, .int .i64 V6, .int .i64 aqk] [.var 130 [.int .u8 vH, .int .i64 zA, .int .i64 jw, .list 5 (kF.map za.pv), .str vG, .str kC, .row 1001 0 l_9.length], .row false 3 (l_9.map zi.pv)] (.tup []) [.var 130 [.int .u8 R.1, .int .i64 R.2.1, .int .i64 R.2.2.1, .list 5 (R.2.2.2.1.map za.pv), .str R.2.2.2.2.1, .str R.2.2.2.2.2.1, .row 1001 0 R.2.2.2.2.2.2.length], .moved 3 (R.2.2.2.2.2.2.map zi.pv)] := by
 rw [vX] at hh
 refine Vz rfl rfl rfl ?_
 refine zb fun K kk hK => ?_
 simp only [go_sem]
 refine hK _ _ fun nx => ?_; clear hK K; try clear kk
 refine zm ?_
 by_cases h1 : (decide ((w64 ((l_9.length : Int) - (1 : Int))) ≥ (0 : Int))) = true
 ·rw [if_pos h1] at hh
  obtain ⟨aif, h2, hh⟩ := ze hh
  obtain ⟨h2a, h2b, h2c⟩ := rd_some h2
  have h2d := kR (f := zi.pv) h2c
  have h2f := wL (f := zi.pv) h2c
  try simp only [Int.toNat_natCast, Int.reduceToNat] at h2d h2f
  refine zb fun K kk hK => ?_
  simp only [go_sem, h1, of_decide_eq_true h1, h2a, h2b, h2d, h2f.1, h2f.2]
  (repeat refine sd ?_)
  refine hK _ _ fun nx => ?_; clear hK K; try clear kk
  by_cases h3 : ((w64 (aif.Pos + aif.Old)) == V6) = true
  ·rw [if_pos h3] at hh
   refine zk (by first | exact congrArg PV.bool h3 | rfl) ?_
   obtain ⟨aq5, h4, hh⟩ := ze hh
   obtain ⟨h4a, h4c⟩ := aad h4
   have h4d := ad2 (f := zi.pv) h4c
   try simp only [Int.toNat_natCast, Int.reduceToNat, List.map_cons, List.map_nil, List.cons_append, List.nil_append, List.singleton_append, pvE] at h4d
   have h4e := adM h4c
   have h2b_h4 := h2b; rw [h4e] at h2b_h4
   have h2f1_h4 := h2f.1; rw [h4e] at h2f1_h4
   have h2a_h4 := h2a; try rw [h4e] at h2a_h4
   have h2d_h4 := h2d; try rw [h4e] at h2d_h4
   try rw [h4e] at h4d
   have h4bw := h4a.2; rw [h4e] at h4bw
   refine zb fun K kk hK => ?_
   simp only [go_sem, h2a, h2b, h2d, h2f.1, h2f.2, h4a.1, h4a.2, h4d, h4e, h2b_h4, h2f1_h4, h2a_h4, h2d_h4, h4bw]
   (repeat refine sd ?_)
   try simp only [go_sem, h2a, h2b, h2d, h2f.1, h2f.2, h4a.1, h4a.2, h4d, h4e, h2b_h4, h2f1_h4, h2a_h4, h2d_h4, h4bw]
   refine hK _ _ fun nx => ?_; clear hK K; try clear kk
   refine zn ?_; refine nmx ?_
   obtain hR := Option.some.inj hh
   subst hR
   refine ji ?_ (by rfl) ?_
   ·simp only [go_sem, wX, j6, kW, vY, ZM, List.map_cons, List.map_append, List.head?_cons, h1, h3]
    all_goals exact wkw
   ·(try simp only [go_sem, h1, h3]); (try simp only [List.length_append, List.map_append, h4e]); all_goals exact wkb
  ·rw [if_neg h3] at hh
   replace h3 := Bool.eq_false_iff.mpr h3
   refine zh (by first | exact congrArg PV.bool h3 | rfl) ?_
   refine zy ?_; refine nmx ?_
   obtain ⟨ak3, h5, hh⟩ := ze hh
   obtain ⟨h5a, h5c⟩ := zX h5
   have h5d := qF (f := zi.pv) h5c
   have h5e := qE h5c
   try simp only [List.length_cons, List.length_nil, Nat.zero_add, Nat.reduceAdd] at h5a h5e
   try simp only [h5e] at h5a
   try simp only [List.map_cons, List.map_nil, List.nil_append, List.append_nil, List.cons_append, List.singleton_append, zo, pvE] at h5d
   refine zt fun K kk hK => ?_
   simp only [go_sem, h5a, h5d, h5e]
   (repeat refine sd ?_)
   refine hK _ _ fun nx => ?_; clear hK K; try clear kk
   refine nmx ?_
   obtain hR := Option.some.inj hh
   subst hR
   refine adD ?_
   refine ji ?_ (by rfl) ?_
   ·simp only [go_sem, wX, j6, kW, vY, ZM, List.map_cons, List.map_append, List.head?_cons, h1, h3]
    all_goals exact wkw
   ·(try simp only [go_sem, h1, h3]); (try simp only [List.length_append, List.map_append, h5e]); all_goals exact wkb
 ·rw [if_neg h1] at hh
  replace h1 := Bool.eq_false_iff.mpr h1
  refine zb fun K kk hK => ?_
  simp only [go_sem, h1, of_decide_eq_false h1]
  (repeat refine sd ?_)
  refine hK _ _ fun nx => ?_; clear hK K; try clear kk
  refine zh rfl ?_
  refine zy ?_; refine nmx ?_
  obtain ⟨ari, h6, hh⟩ := ze hh
  obtain ⟨h6a, h6c⟩ := zX h6
  have h6d := qF (f := zi.pv) h6c
  have h6e := qE h6c
  try simp only [List.length_cons, List.length_nil, Nat.zero_add, Nat.reduceAdd] at h6a h6e
  try simp only [h6e] at h6a
  try simp only [List.map_cons, List.map_nil, List.nil_append, List.append_nil, List.cons_append, List.singleton_append, zo, pvE] at h6d
  refine zt fun K kk hK => ?_
  simp only [go_sem, h6a, h6d, h6e]
  (repeat refine sd ?_)
  refine hK _ _ fun nx => ?_; clear hK K; try clear kk
  refine nmx ?_
  obtain hR := Option.some.inj hh
  subst hR
  refine adD ?_
  refine ji ?_ (by rfl) ?_
  ·simp only [go_sem, wX, j6, kW, vY, ZM, List.map_cons, List.map_append, List.head?_cons, h1]
   all_goals exact wkw
  ·(try simp only [go_sem, h1]); (try simp only [List.length_append, List.map_append, h6e]); all_goals exact wkb
theorem jU (a_1 : Int) (b_2 : Int) (afT : (List Str)) (Q3 : za) (v_5 : (List Int)) (R : za) (hh : wQ a_1 b_2 afT Q3 v_5 = some R) : BC Tryz.prog 141 [.int .i64 a_1, .int .i64 b_2, .list 1 (afT.map PV.str), .box 1000 0 0, .box 1001 0 0] [.var 28 [.str Q3.Kind, .str Q3.Text, .list 1 (Q3.Marks.map PV.str), .list 2 (Q3.zq.map zf.pv), .list 5 (Q3.Kids.map za.pv)], .var 136 [.list 1 (v_5.map (PV.int .i32))]] (.agg [.str R.Kind, .str R.Text, .list 1 (R.Marks.map PV.str), .list 2 (R.zq.map zf.pv), .list 5 (R.Kids.map za.pv)]) [.var 28 [.str Q3.Kind, .str Q3.Text, .list 1 (Q3.Marks.map PV.str), .list 2 (Q3.zq.map zf.pv), .list 5 (Q3.Kids.map za.pv)], .var 136 [.list 1 (v_5.map (PV.int .i32))]] := by
 rw [wQ] at hh
 refine KI rfl rfl rfl ?_
 refine zb fun K kk hK => ?_
 simp only [go_sem]
 refine hK _ _ fun nx => ?_; clear hK K; try clear kk
 obtain ⟨s_6, h1, hh⟩ := ze hh
 obtain ⟨h1a, h1c⟩ := Qm h1
 have h1g := X7 h1a
 have h1d := au5 (f := (PV.int .i32)) h1c
 try simp only [Int.toNat_natCast, Int.reduceToNat, List.map_cons, List.map_nil, pvE] at h1d
 refine zb fun K kk hK => ?_
 simp only [go_sem, h1a.1, h1a.2.1, h1a.2.2, h1d, h1g]
 (repeat refine sd ?_)
 refine hK _ _ fun nx => ?_; clear hK K; try clear kk
 refine zn ?_; refine nmx ?_
 obtain hR := Option.some.inj hh
 subst hR
 refine ji ?_ (by rfl) ?_
 ·simp only [go_sem, wX, j6, kW, vY, ZM, List.map_cons, List.map_append, List.head?_cons]
  all_goals exact wkw
 ·(try simp only [go_sem]); (try simp only [List.length_append, List.map_append]); all_goals exact wkb
theorem J6 (n_1 : za) (zP : Int) (vH : Int) (zA : Int) (jw : Int) (kF : (List za)) (vG : Str) (kC : Str) (l_9 : (List zi)) (R : ((List za) × Int × Int × Int × (List za) × Str × Str × (List zi))) (hh : vU n_1 zP vH zA jw kF vG kC l_9 = some R) : BC Tryz.prog 117 [.box 1000 0 0, .agg [.str n_1.Kind, .str n_1.Text, .list 1 (n_1.Marks.map PV.str), .list 2 (n_1.zq.map zf.pv), .list 5 (n_1.Kids.map za.pv)], .int .i64 zP] [.var 130 [.int .u8 vH, .int .i64 zA, .int .i64 jw, .list 5 (kF.map za.pv), .str vG, .str kC, .row 1001 0 l_9.length], .row false 3 (l_9.map zi.pv)] (.list 5 (R.1.map za.pv)) [.var 130 [.int .u8 R.2.1, .int .i64 R.2.2.1, .int .i64 R.2.2.2.1, .list 5 (R.2.2.2.2.1.map za.pv), .str R.2.2.2.2.2.1, .str R.2.2.2.2.2.2.1, .row 1001 0 R.2.2.2.2.2.2.2.length], .moved 3 (R.2.2.2.2.2.2.2.map zi.pv)] := by
 rw [vU] at hh
 refine VC rfl rfl rfl ?_
 refine zb fun K kk hK => ?_
 simp only [go_sem]
 refine hK _ _ fun nx => ?_; clear hK K; try clear kk
 refine zb fun K kk hK => ?_
 simp only [go_sem]
 refine hK _ _ fun nx => ?_; clear hK K; try clear kk
 refine zb fun K kk hK => ?_
 simp only [go_sem]
 refine hK _ _ fun nx => ?_; clear hK K; try clear kk
 refine zb fun K kk hK => ?_
 simp only [go_sem]
 refine hK _ _ fun nx => ?_; clear hK K; try clear kk
 obtain ⟨⟨Jm, afn⟩, h1, hh⟩ := ze hh
 dsimp only at hh
 refine zb fun K kk hK => ?_
 simp only [go_sem]
 refine zg (acK _ _ _ h1) (by (try simp only [go_sem]) <;> exact wkl) (by rfl) (by rfl) ?_
 simp only [go_sem]
 refine hK _ _ fun nx => ?_; clear hK K; try clear kk
 refine zm ?_
 by_cases h2 : (!afn) = true
 ·rw [if_pos h2] at hh
  refine zb fun K kk hK => ?_
  simp only [go_sem, h2]
  (repeat refine sd ?_)
  refine hK _ _ fun nx => ?_; clear hK K; try clear kk
  refine zk rfl ?_
  refine zb fun K kk hK => ?_
  simp only [go_sem]
  refine hK _ _ fun nx => ?_; clear hK K; try clear kk
  refine zn ?_; refine nmx ?_
  obtain hR := Option.some.inj hh
  subst hR
  refine ji ?_ (by rfl) ?_
  ·simp only [go_sem, wX, j6, kW, vY, ZM, List.map_cons, List.map_append, List.head?_cons, h2]
   all_goals exact wkw
  ·(try simp only [go_sem, h2]); (try simp only [List.length_append, List.map_append]); all_goals exact wkb
 ·rw [if_neg h2] at hh
  replace h2 := Bool.eq_false_iff.mpr h2
  refine zb fun K kk hK => ?_
  simp only [go_sem, h2]
  (repeat refine sd ?_)
  refine hK _ _ fun nx => ?_; clear hK K; try clear kk
  by_cases h3 : ((if ((runes n_1.Text).length : Int) < (if (0 : Int) > (w64 (zA - zP)) then (0 : Int) else w64 (zA - zP)) then ((runes n_1.Text).length : Int) else (if (0 : Int) > (w64 (zA - zP)) then (0 : Int) else w64 (zA - zP))) == (if ((runes n_1.Text).length : Int) < (if (if ((runes n_1.Text).length : Int) < (if (0 : Int) > (w64 (zA - zP)) then (0 : Int) else w64 (zA - zP)) then ((runes n_1.Text).length : Int) else (if (0 : Int) > (w64 (zA - zP)) then (0 : Int) else w64 (zA - zP))) > (w64 (jw - zP)) then (if ((runes n_1.Text).length : Int) < (if (0 : Int) > (w64 (zA - zP)) then (0 : Int) else w64 (zA - zP)) then ((runes n_1.Text).length : Int) else (if (0 : Int) > (w64 (zA - zP)) then (0 : Int) else w64 (zA - zP))) else w64 (jw - zP)) then ((runes n_1.Text).length : Int) else (if (if ((runes n_1.Text).length : Int) < (if (0 : Int) > (w64 (zA - zP)) then (0 : Int) else w64 (zA - zP)) then ((runes n_1.Text).length : Int) else (if (0 : Int) > (w64 (zA - zP)) then (0 : Int) else w64 (zA - zP))) > (w64 (jw - zP)) then (if ((runes n_1.Text).length : Int) < (if (0 : Int) > (w64 (zA - zP)) then (0 : Int) else w64 (zA - zP)) then ((runes n_1.Text).length : Int) else (if (0 : Int) > (w64 (zA - zP)) then (0 : Int) else w64 (zA - zP))) else w64 (jw - zP)))) = true
  ·rw [if_pos h3] at hh
   refine zk (by first | exact congrArg PV.bool h3 | rfl) ?_
   refine zb fun K kk hK => ?_
   simp only [go_sem]
   refine hK _ _ fun nx => ?_; clear hK K; try clear kk
   refine zn ?_; refine nmx ?_
   obtain hR := Option.some.inj hh
   subst hR
   refine ji ?_ (by rfl) ?_
   ·simp only [go_sem, wX, j6, kW, vY, ZM, List.map_cons, List.map_append, List.head?_cons, h2, h3]
    all_goals exact wkw
   ·(try simp only [go_sem, h2, h3]); (try simp only [List.length_append, List.map_append]); all_goals exact wkb
  ·rw [if_neg h3] at hh
   replace h3 := Bool.eq_false_iff.mpr h3
   refine zh (by first | exact congrArg PV.bool h3 | rfl) ?_
   refine zy ?_; refine nmx ?_
   obtain ⟨⟨apc, ao2, auD, alN, aoR, alm, ar3⟩, h4, hh⟩ := ze hh
   dsimp only at hh
   refine zb fun K kk hK => ?_
   simp only [go_sem]
   refine Q4 [1000, 1001] (by decide) (JY _ _ _ _ _ _ _ _ _ _ h4) (by (try simp only [go_sem, h2, h3]) <;> exact wkb) (by rfl) ?_
   simp only [go_sem]
   refine hK _ _ fun nx => ?_; clear hK K; try clear kk
   refine zb fun K kk hK => ?_
   simp only [go_sem]
   refine hK _ _ fun nx => ?_; clear hK K; try clear kk
   obtain ⟨aut, h5, hh⟩ := ze hh
   obtain ⟨auB, h6, hh⟩ := ze hh
   obtain ⟨auw, h7, hh⟩ := ze hh
   refine zb fun K kk hK => ?_
   simp only [go_sem]
   refine abM [4, 7] (by decide) (by decide) (jU _ _ _ _ _ _ h5) (by (try simp only [go_sem, h2, h3]) <;> exact wkb) (by rfl) (by rfl) ?_
   simp only [go_sem]
   refine abM [4, 7] (by decide) (by decide) (jU _ _ _ _ _ _ h6) (by (try simp only [go_sem, h2, h3]) <;> exact wkb) (by rfl) (by rfl) ?_
   simp only [go_sem]
   refine abM [4, 7] (by decide) (by decide) (jU _ _ _ _ _ _ h7) (by (try simp only [go_sem, h2, h3]) <;> exact wkb) (by rfl) (by rfl) ?_
   simp only [go_sem]
   refine hK _ _ fun nx => ?_; clear hK K; try clear kk
   refine zn ?_; refine nmx ?_
   obtain hR := Option.some.inj hh
   subst hR
   refine ji ?_ (by rfl) ?_
   ·simp only [go_sem, wX, j6, kW, vY, ZM, List.map_cons, List.map_append, List.head?_cons, h2, h3]
    all_goals exact wkw
   ·(try simp only [go_sem, h2, h3]); (try simp only [List.length_append, List.map_append]); all_goals exact wkb
end Go.Proofs.YtclohbgnaopjfaaGreatDoor
