/- Texts of the proof of diffLeastCard -/
import Derived.Test.YtclohbgnaopjfaaDoorAgC
import Derived.Test.YtclohbgnaopjfaaDoorAgF
namespace Go.Proofs.YtclohbgnaopjfaaDoor
set_option linter.unusedSimpArgs false
set_option linter.unusedVariables false
open Go
set_option maxRecDepth 100000
theorem XU : ∀ kr : Nat, (∀ (n_1 : za) (R : Int), qJ kr n_1 = some R → PC Tryd.prog 38 [.agg [.str n_1.Kind, .str n_1.Text, .list 1 (n_1.Marks.map PV.str), .list 2 (n_1.zh.map ze.pv), .list 5 (n_1.Kids.map za.pv)]] (.int .i64 R)) := by
 intro kr
 induction kr with
 | zero => exact (by intro n_1 R hh; rw [qJ] at hh; cases hh)
 | succ kr ih =>
  have ih_diptychref1_Depth := ih
  clear ih
  intro n_1 R hh
  rw [qJ] at hh
  refine JG rfl ?_
  refine zb fun K kk hK => ?_
  simp only [go_sem]
  refine hK _ _ fun nx => ?_; clear hK K; try clear kk
  refine zn ?_
  refine zb fun K kk hK => ?_
  simp only [go_sem]
  refine hK _ _ fun nx => ?_; clear hK K; try clear kk
  by_cases h1 : (n_1.Kind == ([116, 101, 120, 116] : Str)) = true
  ·rw [if_pos h1] at hh
   refine zm (by first | exact congrArg PV.bool h1 | rfl) ?_
   refine zb fun K kk hK => ?_
   simp only [go_sem]
   refine hK _ _ fun nx => ?_; clear hK K; try clear kk
   refine zk ?_; refine nmx ?_
   obtain hR := Option.some.inj hh
   subst hR
   exact zy
  ·rw [if_neg h1] at hh
   replace h1 := Bool.eq_false_iff.mpr h1
   refine zi (by first | exact congrArg PV.bool h1 | rfl) ?_
   refine zt ?_; refine nmx ?_
   refine zb fun K kk hK => ?_
   simp only [go_sem]
   refine hK _ _ fun nx => ?_; clear hK K; try clear kk
   refine zn ?_
   refine zb fun K kk hK => ?_
   simp only [go_sem]
   refine hK _ _ fun nx => ?_; clear hK K; try clear kk
   obtain ⟨e0, f0, hh⟩ := zf hh
   obtain ⟨hlen0, f0⟩ := qf f0
   refine qH (w9 (fun s => ∃ aqZ, aqZ = e0 ∧ ∃ (arG : Int) (WJ : Bool) (nx : Nat) (g1 : Nat), s = ⟨[(1, .box 1 g1 0), (3, .int .i64 aqZ), (4, .int .i64 arG), (12, .bool WJ)], [(1, g1, .var 28 [.str n_1.Kind, .str n_1.Text, .list 1 (n_1.Marks.map PV.str), .list 2 (n_1.zh.map ze.pv), .list 5 (n_1.Kids.map za.pv)])], nx⟩))
    (fun i s => False)
    (fun s => False) ?_ ?_ ?_ ?_
   ·refine zA ?_
    refine qb fun I hI => ?_
    have key : ∀ (suf pre : List za) (i_5 : Int) (d_4 : Int), n_1.Kids = pre ++ suf → i_5 = (pre.length : Int) → qR (qJ kr) suf i_5 d_4 = some e0 → ∀ (nx : Nat) (g1 : Nat), I ⟨[(1, .box 1 g1 0), (3, .int .i64 d_4), (4, .int .i64 i_5)], [(1, g1, .var 28 [.str n_1.Kind, .str n_1.Text, .list 1 (n_1.Marks.map PV.str), .list 2 (n_1.zh.map ze.pv), .list 5 (n_1.Kids.map za.pv)])], nx⟩ := by
     intro suf
     induction suf with
     | nil =>
      intro pre i_5 d_4 hsplit hidx hh nx g1
      rw [qR] at hh
      refine hI _ ?_
      have h8 := walk_nil hsplit hidx
      refine zn ?_
      refine zb fun K kk hK => ?_
      simp only [go_sem]
      refine hK _ _ fun nx => ?_; clear hK K; try clear kk
      refine zi (by first | exact congrArg PV.bool h8 | rfl) ?_
      refine zU ?_; refine nmx ?_
      refine wU ?_
      refine zG ?_
      refine ⟨_, (Option.some.inj hh), ?_⟩
      first | exact ⟨_, _, _, _, rfl⟩ | (simp only [pvE, lsE, zo]; exact ⟨_, _, _, _, rfl⟩) | (simp only [pvE, lsE, zo, h1, h8]; exact ⟨_, _, _, _, rfl⟩)
     | cons y_8 suf ih =>
      intro pre i_5 d_4 hsplit hidx hh nx g1
      rw [qR] at hh
      refine hI _ ?_
      obtain ⟨hl0a, hl0b, hl0d, hl0w, h8⟩ := qX (f := za.pv) hsplit hidx hlen0
      refine zn ?_
      refine zb fun K kk hK => ?_
      simp only [go_sem]
      refine hK _ _ fun nx => ?_; clear hK K; try clear kk
      refine zm (by first | exact congrArg PV.bool h8 | rfl) ?_
      refine zt ?_; refine nmx ?_
      refine zn ?_
      refine zA ?_
      obtain ⟨ajD, h9, hh⟩ := zf hh
      refine zq fun K kk hK => ?_
      simp only [go_sem, hl0a, hl0b, hl0d, hl0w]
      refine zg (ih_diptychref1_Depth _ _ h9) (by (try simp only [go_sem, hl0a, hl0b, hl0d, hl0w]) <;> exact wkl) (by rfl) (by rfl) ?_
      simp only [go_sem, hl0a, hl0b, hl0d, hl0w]
      refine hK _ _ fun nx => ?_; clear hK K; try clear kk
      refine nmx ?_
      refine zq fun K kk hK => ?_
      simp only [go_sem, hl0a, hl0b, hl0d, hl0w]
      refine hK _ _ fun nx => ?_; clear hK K; try clear kk
      refine nmx ?_
      have ih' := ih (pre ++ [y_8]) (i_5 + 1) _ (by rw [hsplit]; simp) (by simp [hidx]) hh nx
      refine zG ?_
      first | exact ih' _ | (simp only [pvE, lsE, zo] at ih' ⊢; exact ih' _) | (simp only [pvE, lsE, zo, h1, h8] at ih' ⊢; exact ih' _)
    exact key n_1.Kids [] _ _ rfl rfl f0 _ _
   ·rintro s ⟨t, hless, aqZ, rfl, arG, WJ, nx, g1, rfl⟩
    try dsimp only at hh
    refine nmy ?_
    first | (refine wG hless ?_; try refine ku ?_) | refine qP hless ?_ | refine qQ hless ?_
    refine zb fun K kk hK => ?_
    simp only [go_sem]
    refine hK _ _ fun nx => ?_; clear hK K; try clear kk
    refine zk ?_; refine nmx ?_
    obtain hR := Option.some.inj hh
    subst hR
    exact zy
   ·intro i s h; exact h.elim
   ·intro s h; exact h.elim
theorem Yc (n_1 : za) (R : Int) (hh : ja n_1 = some R) : PC Tryd.prog 38 [.agg [.str n_1.Kind, .str n_1.Text, .list 1 (n_1.Marks.map PV.str), .list 2 (n_1.zh.map ze.pv), .list 5 (n_1.Kids.map za.pv)]] (.int .i64 R) := by
 rw [ja] at hh
 obtain ⟨kr, hh⟩ := jH hh
 exact (XU kr) _ _ hh
end Go.Proofs.YtclohbgnaopjfaaDoor
