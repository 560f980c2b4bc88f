/- Texts of the proof of stepTokensCard -/
import Derived.Test.YtclohbgnaopjfaaGreatDoorAgC
import Derived.Test.YtclohbgnaopjfaaGreatDoorAgF
import Derived.Test.YtclohbgnaopjfaaGreatDoorAgK6
namespace Go.Proofs.YtclohbgnaopjfaaGreatDoor
set_option linter.unusedSimpArgs false
set_option linter.unusedVariables false
open Go
set_option maxRecDepth 100000
theorem YV (x_1 : zu) (afM : (List za)) (R : za) (hh : vM x_1 afM = some R) : PC Tryz.prog 32 [.agg [.int .i64 x_1.Text, .int .i64 x_1.Marks, .int .i64 x_1.zq, .int .i64 x_1.In], .list 5 (afM.map za.pv)] (.agg [.str R.Kind, .str R.Text, .list 1 (R.Marks.map PV.str), .list 2 (R.zq.map zf.pv), .list 5 (R.Kids.map za.pv)]) := by
 rw [vM] at hh
 refine JC rfl ?_
 refine zb fun K kk hK => ?_
 simp only [go_sem]
 refine hK _ _ fun nx => ?_; clear hK K; try clear kk
 refine zb fun K kk hK => ?_
 simp only [go_sem]
 refine hK _ _ fun nx => ?_; clear hK K; try clear kk
 refine zb fun K kk hK => ?_
 simp only [go_sem]
 refine hK _ _ fun nx => ?_; clear hK K; try clear kk
 obtain ⟨aqT, h1, hh⟩ := ze hh
 obtain ⟨x_4, h2, hh⟩ := ze hh
 obtain ⟨h2a, h2b, h2c⟩ := rd_some h2
 have h2d := kR (f := PV.str) h2c
 have h2f := wL (f := PV.str) h2c
 try simp only [Int.toNat_natCast, Int.reduceToNat] at h2d h2f
 simp only [List.length_cons, List.length_nil, List.map_cons, List.map_nil, Nat.zero_add, Nat.reduceAdd, reduceCtorEq, not_false_eq_true, and_true, pvE] at h2b h2d h2f
 obtain ⟨asJ, h3, hh⟩ := ze hh
 obtain ⟨x_6, h4, hh⟩ := ze hh
 obtain ⟨h4a, h4b, h4c⟩ := rd_some h4
 have h4d := kR (f := PV.str) h4c
 have h4f := wL (f := PV.str) h4c
 try simp only [Int.toNat_natCast, Int.reduceToNat] at h4d h4f
 simp only [List.length_cons, List.length_nil, List.map_cons, List.map_nil, Nat.zero_add, Nat.reduceAdd, reduceCtorEq, not_false_eq_true, and_true, pvE] at h4b h4d h4f
 refine zb fun K kk hK => ?_
 simp only [go_sem, h2a, h2b, h2d, h4a, h4b, h4d, h2f, h4f]
 (repeat refine sd ?_)
 refine zg (qj _ _ _ h1) (by (try simp only [go_sem, h2a, h2b, h2d, h4a, h4b, h4d, h2f, h4f]) <;> exact wkl) (by rfl) (by rfl) ?_
 simp only [go_sem, h2a, h2b, h2d, h4a, h4b, h4d, h2f, h4f]
 (repeat refine sd ?_)
 refine zg (qj _ _ _ h3) (by (try simp only [go_sem, h2a, h2b, h2d, h4a, h4b, h4d, h2f, h4f]) <;> exact wkl) (by rfl) (by rfl) ?_
 simp only [go_sem, h2a, h2b, h2d, h4a, h4b, h4d, h2f, h4f]
 (repeat refine sd ?_)
 refine hK _ _ fun nx => ?_; clear hK K; try clear kk
 obtain ⟨ah3, h5, hh⟩ := ze hh
 refine zb fun K kk hK => ?_
 simp only [go_sem]
 refine zg (aal _ _ h5).list (by (try simp only [go_sem]) <;> exact wkl) (by rfl) (by rfl) ?_
 simp only [go_sem]
 refine hK _ _ fun nx => ?_; clear hK K; try clear kk
 refine zn ?_; refine nmx ?_
 obtain hR := Option.some.inj hh
 subst hR
 exact zz
theorem XQ : ∀ kr : Nat, (∀ (n_1 : za) (R : Int), qM kr n_1 = some R → PC Tryz.prog 33 [.agg [.str n_1.Kind, .str n_1.Text, .list 1 (n_1.Marks.map PV.str), .list 2 (n_1.zq.map zf.pv), .list 5 (n_1.Kids.map za.pv)]] (.int .i64 R)) := by
 intro kr
 induction kr with
 | zero => exact (by intro n_1 R hh; rw [qM] at hh; cases hh)
 | succ kr ih =>
  have ih_diptychref1_Depth := ih
  clear ih
  intro n_1 R hh
  rw [qM] at hh
  refine Jz rfl ?_
  refine zb fun K kk hK => ?_
  simp only [go_sem]
  refine hK _ _ fun nx => ?_; clear hK K; try clear kk
  refine zm ?_
  refine zb fun K kk hK => ?_
  simp only [go_sem]
  refine hK _ _ fun nx => ?_; clear hK K; try clear kk
  by_cases h1 : (n_1.Kind == ([116, 101, 120, 116] : Str)) = true
  ·rw [if_pos h1] at hh
   refine zk (by first | exact congrArg PV.bool h1 | rfl) ?_
   refine zb fun K kk hK => ?_
   simp only [go_sem]
   refine hK _ _ fun nx => ?_; clear hK K; try clear kk
   refine zn ?_; refine nmx ?_
   obtain hR := Option.some.inj hh
   subst hR
   exact zz
  ·rw [if_neg h1] at hh
   replace h1 := Bool.eq_false_iff.mpr h1
   refine zh (by first | exact congrArg PV.bool h1 | rfl) ?_
   refine zy ?_; refine nmx ?_
   refine zb fun K kk hK => ?_
   simp only [go_sem]
   refine hK _ _ fun nx => ?_; clear hK K; try clear kk
   refine zm ?_
   refine zb fun K kk hK => ?_
   simp only [go_sem]
   refine hK _ _ fun nx => ?_; clear hK K; try clear kk
   obtain ⟨e0, f0, hh⟩ := ze hh
   obtain ⟨hlen0, f0⟩ := zR f0
   refine qz (w9 (fun s => ∃ arG, arG = e0 ∧ ∃ (arU : Int) (KU : Bool) (nx : Nat) (g1 : Nat), s = ⟨[(1, .box 1 g1 0), (3, .int .i64 arG), (4, .int .i64 arU), (12, .bool KU)], [(1, g1, .var 28 [.str n_1.Kind, .str n_1.Text, .list 1 (n_1.Marks.map PV.str), .list 2 (n_1.zq.map zf.pv), .list 5 (n_1.Kids.map za.pv)])], nx⟩))
    (fun i s => False)
    (fun s => False) ?_ ?_ ?_ ?_
   ·refine zC ?_
    refine qi fun I hI => ?_
    have key : ∀ (suf pre : List za) (i_5 : Int) (d_4 : Int), n_1.Kids = pre ++ suf → i_5 = (pre.length : Int) → qP (qM kr) suf i_5 d_4 = some e0 → ∀ (nx : Nat) (g1 : Nat), I ⟨[(1, .box 1 g1 0), (3, .int .i64 d_4), (4, .int .i64 i_5)], [(1, g1, .var 28 [.str n_1.Kind, .str n_1.Text, .list 1 (n_1.Marks.map PV.str), .list 2 (n_1.zq.map zf.pv), .list 5 (n_1.Kids.map za.pv)])], nx⟩ := by
     intro suf
     induction suf with
     | nil =>
      intro pre i_5 d_4 hsplit hidx hh nx g1
      rw [qP] at hh
      refine hI _ ?_
      have h8 := walk_nil hsplit hidx
      refine zm ?_
      refine zb fun K kk hK => ?_
      simp only [go_sem]
      refine hK _ _ fun nx => ?_; clear hK K; try clear kk
      refine zh (by first | exact congrArg PV.bool h8 | rfl) ?_
      refine zV ?_; refine nmx ?_
      refine wU ?_
      refine zH ?_
      refine ⟨_, (Option.some.inj hh), ?_⟩
      first | exact ⟨_, _, _, _, rfl⟩ | (simp only [pvE, lsE, zo]; exact ⟨_, _, _, _, rfl⟩) | (simp only [pvE, lsE, zo, h1, h8]; exact ⟨_, _, _, _, rfl⟩)
     | cons y_8 suf ih =>
      intro pre i_5 d_4 hsplit hidx hh nx g1
      rw [qP] at hh
      refine hI _ ?_
      obtain ⟨hl0a, hl0b, hl0d, hl0w, h8⟩ := qV (f := za.pv) hsplit hidx hlen0
      refine zm ?_
      refine zb fun K kk hK => ?_
      simp only [go_sem]
      refine hK _ _ fun nx => ?_; clear hK K; try clear kk
      refine zk (by first | exact congrArg PV.bool h8 | rfl) ?_
      refine zy ?_; refine nmx ?_
      refine zm ?_
      refine zC ?_
      obtain ⟨ajH, h9, hh⟩ := ze hh
      refine zt fun K kk hK => ?_
      simp only [go_sem, hl0a, hl0b, hl0d, hl0w]
      refine zg (ih_diptychref1_Depth _ _ h9) (by (try simp only [go_sem, hl0a, hl0b, hl0d, hl0w]) <;> exact wkl) (by rfl) (by rfl) ?_
      simp only [go_sem, hl0a, hl0b, hl0d, hl0w]
      refine hK _ _ fun nx => ?_; clear hK K; try clear kk
      refine nmx ?_
      refine zt fun K kk hK => ?_
      simp only [go_sem, hl0a, hl0b, hl0d, hl0w]
      refine hK _ _ fun nx => ?_; clear hK K; try clear kk
      refine nmx ?_
      have ih' := ih (pre ++ [y_8]) (i_5 + 1) _ (by rw [hsplit]; simp) (by simp [hidx]) hh nx
      refine zH ?_
      first | exact ih' _ | (simp only [pvE, lsE, zo] at ih' ⊢; exact ih' _) | (simp only [pvE, lsE, zo, h1, h8] at ih' ⊢; exact ih' _)
    exact key n_1.Kids [] _ _ rfl rfl f0 _ _
   ·rintro s ⟨t, hless, arG, rfl, arU, KU, nx, g1, rfl⟩
    try dsimp only at hh
    refine nmy ?_
    first | (refine qW hless ?_; try refine wY ?_) | refine qC hless ?_ | refine qD hless ?_
    refine zb fun K kk hK => ?_
    simp only [go_sem]
    refine hK _ _ fun nx => ?_; clear hK K; try clear kk
    refine zn ?_; refine nmx ?_
    obtain hR := Option.some.inj hh
    subst hR
    exact zz
   ·intro i s h; exact h.elim
   ·intro s h; exact h.elim
theorem YT (n_1 : za) (R : Int) (hh : vK n_1 = some R) : PC Tryz.prog 33 [.agg [.str n_1.Kind, .str n_1.Text, .list 1 (n_1.Marks.map PV.str), .list 2 (n_1.zq.map zf.pv), .list 5 (n_1.Kids.map za.pv)]] (.int .i64 R) := by
 rw [vK] at hh
 obtain ⟨kr, hh⟩ := jL hh
 exact (XQ kr) _ _ hh
end Go.Proofs.YtclohbgnaopjfaaGreatDoor
