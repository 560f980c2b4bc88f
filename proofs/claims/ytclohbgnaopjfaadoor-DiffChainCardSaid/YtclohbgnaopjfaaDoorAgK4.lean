/- Texts of the proof of diffChainCard -/
import Derived.Test.YtclohbgnaopjfaaDoorAgC
import Derived.Test.YtclohbgnaopjfaaDoorAgF
namespace Go.Proofs.YtclohbgnaopjfaaDoor
set_option linter.unusedSimpArgs false
set_option linter.unusedVariables false
open Go
set_option maxRecDepth 100000
theorem YL : ∀ kr : Nat, (∀ (n_1 : za) (R : Int), qX kr n_1 = some R → PC Tryd.prog 38 [.agg [.str n_1.Kind, .str n_1.Text, .list 1 (n_1.Marks.map PV.str), .list 2 (n_1.zh.map ze.pv), .list 5 (n_1.Kids.map za.pv)]] (.int .i64 R)) := by
 intro kr
 induction kr with
 | zero => exact (by intro n_1 R hh; rw [qX] at hh; cases hh)
 | succ kr ih =>
  have ih_diptychref1_Depth := ih
  clear ih
  intro n_1 R hh
  rw [qX] at hh
  refine XD rfl ?_
  refine zb fun K kk hK => ?_
  simp only [go_sem]
  refine hK _ _ fun nx => ?_; clear hK K; try clear kk
  refine zm ?_
  refine zb fun K kk hK => ?_
  simp only [go_sem]
  refine hK _ _ fun nx => ?_; clear hK K; try clear kk
  by_cases h1 : (n_1.Kind == ([116, 101, 120, 116] : Str)) = true
  ·rw [if_pos h1] at hh
   refine zn (by first | exact congrArg PV.bool h1 | rfl) ?_
   refine zb fun K kk hK => ?_
   simp only [go_sem]
   refine hK _ _ fun nx => ?_; clear hK K; try clear kk
   refine zk ?_; refine nmx ?_
   obtain hR := Option.some.inj hh
   subst hR
   exact zz
  ·rw [if_neg h1] at hh
   replace h1 := Bool.eq_false_iff.mpr h1
   refine zi (by first | exact congrArg PV.bool h1 | rfl) ?_
   refine zy ?_; refine nmx ?_
   refine zb fun K kk hK => ?_
   simp only [go_sem]
   refine hK _ _ fun nx => ?_; clear hK K; try clear kk
   refine zm ?_
   refine zb fun K kk hK => ?_
   simp only [go_sem]
   refine hK _ _ fun nx => ?_; clear hK K; try clear kk
   obtain ⟨e0, f0, hh⟩ := zf hh
   obtain ⟨hlen0, f0⟩ := qf f0
   refine qp (kC (fun s => ∃ atT, atT = e0 ∧ ∃ (avk : Int) (KL : Bool) (nx : Nat) (g1 : Nat), s = ⟨[(1, .box 1 g1 0), (3, .int .i64 atT), (4, .int .i64 avk), (12, .bool KL)], [(1, g1, .var 28 [.str n_1.Kind, .str n_1.Text, .list 1 (n_1.Marks.map PV.str), .list 2 (n_1.zh.map ze.pv), .list 5 (n_1.Kids.map za.pv)])], nx⟩))
    (fun i s => False)
    (fun s => False) ?_ ?_ ?_ ?_
   ·refine zA ?_
    refine qd fun I hI => ?_
    have key : ∀ (suf pre : List za) (i_5 : Int) (d_4 : Int), n_1.Kids = pre ++ suf → i_5 = (pre.length : Int) → wm (qX kr) suf i_5 d_4 = some e0 → ∀ (nx : Nat) (g1 : Nat), I ⟨[(1, .box 1 g1 0), (3, .int .i64 d_4), (4, .int .i64 i_5)], [(1, g1, .var 28 [.str n_1.Kind, .str n_1.Text, .list 1 (n_1.Marks.map PV.str), .list 2 (n_1.zh.map ze.pv), .list 5 (n_1.Kids.map za.pv)])], nx⟩ := by
     intro suf
     induction suf with
     | nil =>
      intro pre i_5 d_4 hsplit hidx hh nx g1
      rw [wm] at hh
      refine hI _ ?_
      have h8 := walk_nil hsplit hidx
      refine zm ?_
      refine zb fun K kk hK => ?_
      simp only [go_sem]
      refine hK _ _ fun nx => ?_; clear hK K; try clear kk
      refine zi (by first | exact congrArg PV.bool h8 | rfl) ?_
      refine zU ?_; refine nmx ?_
      refine wX ?_
      refine zG ?_
      refine ⟨_, (Option.some.inj hh), ?_⟩
      first | exact ⟨_, _, _, _, rfl⟩ | (simp only [pvE, lsE, zq]; exact ⟨_, _, _, _, rfl⟩) | (simp only [pvE, lsE, zq, h1, h8]; exact ⟨_, _, _, _, rfl⟩)
     | cons y_8 suf ih =>
      intro pre i_5 d_4 hsplit hidx hh nx g1
      rw [wm] at hh
      refine hI _ ?_
      obtain ⟨hl0a, hl0b, hl0d, hl0w, h8⟩ := qM (f := za.pv) hsplit hidx hlen0
      refine zm ?_
      refine zb fun K kk hK => ?_
      simp only [go_sem]
      refine hK _ _ fun nx => ?_; clear hK K; try clear kk
      refine zn (by first | exact congrArg PV.bool h8 | rfl) ?_
      refine zy ?_; refine nmx ?_
      refine zm ?_
      refine zA ?_
      obtain ⟨alF, h9, hh⟩ := zf hh
      refine zu fun K kk hK => ?_
      simp only [go_sem, hl0a, hl0b, hl0d, hl0w]
      refine zg (ih_diptychref1_Depth _ _ h9) (by (try simp only [go_sem, hl0a, hl0b, hl0d, hl0w]) <;> exact wkl) (by rfl) (by rfl) ?_
      simp only [go_sem, hl0a, hl0b, hl0d, hl0w]
      refine hK _ _ fun nx => ?_; clear hK K; try clear kk
      refine nmx ?_
      refine zu fun K kk hK => ?_
      simp only [go_sem, hl0a, hl0b, hl0d, hl0w]
      refine hK _ _ fun nx => ?_; clear hK K; try clear kk
      refine nmx ?_
      have ih' := ih (pre ++ [y_8]) (i_5 + 1) _ (by rw [hsplit]; simp) (by simp [hidx]) hh nx
      refine zG ?_
      first | exact ih' _ | (simp only [pvE, lsE, zq] at ih' ⊢; exact ih' _) | (simp only [pvE, lsE, zq, h1, h8] at ih' ⊢; exact ih' _)
    exact key n_1.Kids [] _ _ rfl rfl f0 _ _
   ·rintro s ⟨t, hless, atT, rfl, avk, KL, nx, g1, rfl⟩
    try dsimp only at hh
    refine nmy ?_
    first | (refine wh hless ?_; try refine ku ?_) | refine qD hless ?_ | refine qE hless ?_
    refine zb fun K kk hK => ?_
    simp only [go_sem]
    refine hK _ _ fun nx => ?_; clear hK K; try clear kk
    refine zk ?_; refine nmx ?_
    obtain hR := Option.some.inj hh
    subst hR
    exact zz
   ·intro i s h; exact h.elim
   ·intro s h; exact h.elim
theorem aaK (n_1 : za) (R : Int) (hh : jk n_1 = some R) : PC Tryd.prog 38 [.agg [.str n_1.Kind, .str n_1.Text, .list 1 (n_1.Marks.map PV.str), .list 2 (n_1.zh.map ze.pv), .list 5 (n_1.Kids.map za.pv)]] (.int .i64 R) := by
 rw [jk] at hh
 obtain ⟨kr, hh⟩ := jU hh
 exact (YL kr) _ _ hh
end Go.Proofs.YtclohbgnaopjfaaDoor
