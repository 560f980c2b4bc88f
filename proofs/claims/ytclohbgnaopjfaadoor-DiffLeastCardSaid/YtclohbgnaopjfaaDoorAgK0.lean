/- Texts of the proof of diffLeastCard -/
import Derived.Test.YtclohbgnaopjfaaDoorAgC
import Derived.Test.YtclohbgnaopjfaaDoorAgF
import Derived.Test.YtclohbgnaopjfaaDoorAgL
namespace Go.Proofs.YtclohbgnaopjfaaDoor
set_option linter.unusedSimpArgs false
set_option linter.unusedVariables false
open Go
set_option maxRecDepth 100000
theorem kH (n_1 : za) (R : Bool) (hh : jw n_1 = some R) : PC Tryd.prog 58 [.agg [.str n_1.Kind, .str n_1.Text, .list 1 (n_1.Marks.map PV.str), .list 2 (n_1.zh.map ze.pv), .list 5 (n_1.Kids.map za.pv)]] (.bool R) := by
 rw [jw] at hh
 refine aci rfl ?_
 refine zb fun K kk hK => ?_
 simp only [go_sem]
 refine hK _ _ fun nx => ?_; clear hK K; try clear kk
 refine zb fun K kk hK => ?_
 simp only [go_sem]
 refine hK _ _ fun nx => ?_; clear hK K; try clear kk
 refine zk ?_; refine nmx ?_
 obtain hR := Option.some.inj hh
 subst hR
 exact zy
theorem Qk (s_1 : Str) (R : Int) (hh : wB s_1 = some R) : PC Tryd.prog 63 [.str s_1] (.int .i64 R) := by
 rw [wB] at hh
 refine Zc rfl ?_
 refine zb fun K kk hK => ?_
 simp only [go_sem]
 refine hK _ _ fun nx => ?_; clear hK K; try clear kk
 refine zn ?_
 refine zb fun K kk hK => ?_
 simp only [go_sem]
 refine hK _ _ fun nx => ?_; clear hK K; try clear kk
 obtain ⟨e0, f0, hh⟩ := zf hh
 refine qH (w9 (fun s => ∃ n_4, n_4 = e0 ∧ ∃ (v_5 : Nat) (nx : Nat) (g4 : Nat), s = ⟨[(2, .int .i64 n_4), (4, .box 4 g4 0), (6, .bool false)], [(4, g4, .iter s_1 v_5)], nx⟩))
  (fun i s => False)
  (fun s => False) ?_ ?_ ?_ ?_
 ·refine zA ?_
  refine qb fun I hI => ?_
  obtain ⟨k, f0⟩ := jH f0
  have key : ∀ (k : Nat) (n_2 : Int) (v_3 : Nat), zL s_1 k n_2 v_3 = some e0 → ∀ (nx : Nat) (g4 : Nat), I ⟨[(2, .int .i64 n_2), (4, .box 4 g4 0)], [(4, g4, .iter s_1 v_3)], nx⟩ := by
   intro k
   induction k with
   | zero => intro n_2 v_3 hh; rw [zL] at hh; cases hh
   | succ k ih =>
    intro n_2 v_3 hh nx g4
    rw [zL] at hh
    refine hI _ ?_
    by_cases h2 : (decide (v_3 < s_1.length)) = true
    ·rw [if_pos h2] at hh
     refine zb fun K kk hK => ?_
     simp only [go_sem, h2, of_decide_eq_true h2]
     (repeat refine sd ?_)
     refine hK _ _ fun nx => ?_; clear hK K; try clear kk
     refine zn ?_
     refine zm rfl ?_
     refine zt ?_; refine nmx ?_
     refine zA ?_
     refine zq fun K kk hK => ?_
     simp only [go_sem]
     refine hK _ _ fun nx => ?_; clear hK K; try clear kk
     refine nmx ?_
     have ih' := ih _ _ hh nx
     refine zG ?_
     first | exact ih' _ | (simp only [pvE, lsE, zo] at ih' ⊢; exact ih' _) | (simp only [pvE, lsE, zo, h2] at ih' ⊢; exact ih' _)
    ·rw [if_neg h2] at hh
     replace h2 := Bool.eq_false_iff.mpr h2
     refine zb fun K kk hK => ?_
     simp only [go_sem, h2, of_decide_eq_false h2]
     (repeat refine sd ?_)
     refine hK _ _ fun nx => ?_; clear hK K; try clear kk
     refine zn ?_
     refine zi rfl ?_
     refine zU ?_; refine nmx ?_
     refine wU ?_
     refine zG ?_
     refine ⟨_, (Option.some.inj hh), ?_⟩
     first | exact ⟨_, _, _, rfl⟩ | (simp only [pvE, lsE, zo]; exact ⟨_, _, _, rfl⟩) | (simp only [pvE, lsE, zo, h2]; exact ⟨_, _, _, rfl⟩)
  exact key _ _ _ f0 _ _
 ·rintro s ⟨t, hless, n_4, rfl, v_5, nx, g4, rfl⟩
  try dsimp only at hh
  refine nmy ?_
  first | (refine wG hless ?_; try refine ku ?_) | refine qP hless ?_ | refine qQ hless ?_
  refine zb fun K kk hK => ?_
  simp only [go_sem]
  refine hK _ _ fun nx => ?_; clear hK K; try clear kk
  refine zk ?_; refine nmx ?_
  obtain hR := Option.some.inj hh
  subst hR
  exact zy
 ·intro i s h; exact h.elim
 ·intro s h; exact h.elim
theorem aa7 : ∀ kr : Nat, (∀ (n_1 : za) (R : Int), jq kr n_1 = some R → PC Tryd.prog 34 [.agg [.str n_1.Kind, .str n_1.Text, .list 1 (n_1.Marks.map PV.str), .list 2 (n_1.zh.map ze.pv), .list 5 (n_1.Kids.map za.pv)]] (.int .i64 R)) ∧
  (∀ (l_1 : (List za)) (R : Int), xX kr l_1 = some R → PC Tryd.prog 27 [.list 5 (l_1.map za.pv)] (.int .i64 R)) := by
 intro kr
 induction kr with
 | zero => exact ⟨(by intro n_1 R hh; rw [jq] at hh; cases hh), (by intro l_1 R hh; rw [xX] at hh; cases hh)⟩
 | succ kr ih =>
  obtain ⟨ih_node_Size, ih_node_Total⟩ := ih
  refine ⟨?_, ?_⟩
  ·intro n_1 R hh
   rw [jq] at hh
   refine afx rfl ?_
   refine zb fun K kk hK => ?_
   simp only [go_sem]
   refine hK _ _ fun nx => ?_; clear hK K; try clear kk
   refine zn ?_
   obtain ⟨yI, h1, hh⟩ := zf hh
   refine zb fun K kk hK => ?_
   simp only [go_sem]
   refine zg (kH _ _ h1) (by (try simp only [go_sem]) <;> exact wkl) (by rfl) (by rfl) ?_
   simp only [go_sem]
   refine hK _ _ fun nx => ?_; clear hK K; try clear kk
   by_cases h2 : (yI) = true
   ·rw [if_pos h2] at hh
    refine zm (by first | exact congrArg PV.bool h2 | rfl) ?_
    obtain ⟨alL, h3, hh⟩ := zf hh
    refine zb fun K kk hK => ?_
    simp only [go_sem]
    refine zg (Qk _ _ h3) (by (try simp only [go_sem]) <;> exact wkl) (by rfl) (by rfl) ?_
    simp only [go_sem]
    refine hK _ _ fun nx => ?_; clear hK K; try clear kk
    refine zk ?_; refine nmx ?_
    obtain hR := Option.some.inj hh
    subst hR
    exact zy
   ·rw [if_neg h2] at hh
    replace h2 := Bool.eq_false_iff.mpr h2
    refine zi (by first | exact congrArg PV.bool h2 | rfl) ?_
    refine zt ?_; refine nmx ?_
    obtain ⟨ao6, h4, hh⟩ := zf hh
    refine zb fun K kk hK => ?_
    simp only [go_sem]
    refine zg (ih_node_Total _ _ h4) (by (try simp only [go_sem]) <;> exact wkl) (by rfl) (by rfl) ?_
    simp only [go_sem]
    refine hK _ _ fun nx => ?_; clear hK K; try clear kk
    refine zk ?_; refine nmx ?_
    obtain hR := Option.some.inj hh
    subst hR
    exact zy
  ·intro l_1 R hh
   rw [xX] at hh
   refine aep rfl ?_
   refine zb fun K kk hK => ?_
   simp only [go_sem]
   refine hK _ _ fun nx => ?_; clear hK K; try clear kk
   refine zb fun K kk hK => ?_
   simp only [go_sem]
   refine hK _ _ fun nx => ?_; clear hK K; try clear kk
   refine zn ?_
   refine zb fun K kk hK => ?_
   simp only [go_sem]
   refine hK _ _ fun nx => ?_; clear hK K; try clear kk
   obtain ⟨e0, f0, hh⟩ := zf hh
   obtain ⟨hlen0, f0⟩ := qf f0
   refine qH (w9 (fun s => ∃ acE, acE = e0 ∧ ∃ (WA : Int) (WJ : Bool) (nx : Nat), s = ⟨[(3, .int .i64 acE), (6, .list 5 (l_1.map za.pv)), (7, .int .i64 (l_1.length : Int)), (8, .int .i64 WA), (9, .bool WJ)], [], nx⟩))
    (fun i s => False)
    (fun s => False) ?_ ?_ ?_ ?_
   ·refine zA ?_
    refine qb fun I hI => ?_
    have key : ∀ (suf pre : List za) (v_5 : Int) (Yy : Int), l_1 = pre ++ suf → v_5 = (pre.length : Int) → jy (jq kr) suf v_5 Yy = some e0 → ∀ (nx : Nat), I ⟨[(3, .int .i64 Yy), (6, .list 5 (l_1.map za.pv)), (7, .int .i64 (l_1.length : Int)), (8, .int .i64 v_5)], [], nx⟩ := by
     intro suf
     induction suf with
     | nil =>
      intro pre v_5 Yy hsplit hidx hh nx
      rw [jy] at hh
      refine hI _ ?_
      have h7 := walk_nil hsplit hidx
      refine zb fun K kk hK => ?_
      simp only [go_sem]
      refine hK _ _ fun nx => ?_; clear hK K; try clear kk
      refine zn ?_
      refine zi (by first | exact congrArg PV.bool h7 | rfl) ?_
      refine zU ?_; refine nmx ?_
      refine wU ?_
      refine zG ?_
      refine ⟨_, (Option.some.inj hh), ?_⟩
      first | exact ⟨_, _, _, rfl⟩ | (simp only [pvE, lsE, zo]; exact ⟨_, _, _, rfl⟩) | (simp only [pvE, lsE, zo, h7]; exact ⟨_, _, _, rfl⟩)
     | cons y_8 suf ih =>
      intro pre v_5 Yy hsplit hidx hh nx
      rw [jy] at hh
      refine hI _ ?_
      obtain ⟨hl0a, hl0b, hl0d, hl0w, h7⟩ := qX (f := za.pv) hsplit hidx hlen0
      refine zb fun K kk hK => ?_
      simp only [go_sem]
      refine hK _ _ fun nx => ?_; clear hK K; try clear kk
      refine zn ?_
      refine zm (by first | exact congrArg PV.bool h7 | rfl) ?_
      refine zt ?_; refine nmx ?_
      refine zn ?_
      refine zA ?_
      refine zb fun K kk hK => ?_
      simp only [go_sem, hl0a, hl0b, hl0d, hl0w]
      refine hK _ _ fun nx => ?_; clear hK K; try clear kk
      obtain ⟨arN, h8, hh⟩ := zf hh
      refine zq fun K kk hK => ?_
      simp only [go_sem, hl0a, hl0b, hl0d, hl0w]
      refine zg (ih_node_Size _ _ h8) (by (try simp only [go_sem, hl0a, hl0b, hl0d, hl0w]) <;> exact wkl) (by rfl) (by rfl) ?_
      simp only [go_sem, hl0a, hl0b, hl0d, hl0w]
      refine hK _ _ fun nx => ?_; clear hK K; try clear kk
      refine nmx ?_
      refine zq fun K kk hK => ?_
      simp only [go_sem, hl0a, hl0b, hl0d, hl0w]
      refine hK _ _ fun nx => ?_; clear hK K; try clear kk
      refine nmx ?_
      have ih' := ih (pre ++ [y_8]) (v_5 + 1) _ (by rw [hsplit]; simp) (by simp [hidx]) hh nx
      refine zG ?_
      first | exact ih' | (simp only [pvE, lsE, zo] at ih' ⊢; exact ih') | (simp only [pvE, lsE, zo, h7] at ih' ⊢; exact ih')
    exact key l_1 [] _ _ rfl rfl f0 _
   ·rintro s ⟨t, hless, acE, rfl, WA, WJ, nx, rfl⟩
    try dsimp only at hh
    refine nmy ?_
    first | (refine wG hless ?_; try refine ku ?_) | refine qP hless ?_ | refine qQ hless ?_
    refine zb fun K kk hK => ?_
    simp only [go_sem]
    refine hK _ _ fun nx => ?_; clear hK K; try clear kk
    refine zk ?_; refine nmx ?_
    obtain hR := Option.some.inj hh
    subst hR
    exact zy
   ·intro i s h; exact h.elim
   ·intro s h; exact h.elim
theorem QD (n_1 : za) (R : Int) (hh : yL n_1 = some R) : PC Tryd.prog 34 [.agg [.str n_1.Kind, .str n_1.Text, .list 1 (n_1.Marks.map PV.str), .list 2 (n_1.zh.map ze.pv), .list 5 (n_1.Kids.map za.pv)]] (.int .i64 R) := by
 rw [yL] at hh
 obtain ⟨kr, hh⟩ := jH hh
 exact (aa7 kr).1 _ _ hh
theorem jA (l_1 : (List za)) (R : Int) (hh : je l_1 = some R) : PC Tryd.prog 27 [.list 5 (l_1.map za.pv)] (.int .i64 R) := by
 rw [je] at hh
 obtain ⟨kr, hh⟩ := jH hh
 exact (aa7 kr).2 _ _ hh
theorem kQ (s : Str) (R : Bool) (hh : wJ s = some R) : PC Tryd.prog 103 [.str s] (.bool R) := by
 rw [wJ] at hh
 exact afs ⟨_, Tryd.func103, by kernel_rfl, by kernel_rfl⟩ (fun s w h1 h2 => Any.utf8_ValidString Tryd.aoo s w h1 (au3 h2)) s R hh
theorem jk (wT : (List Str)) (kC : (List Str)) (R : Bool) (hh : slices_Equal_string wT kC = some R) : PC Tryd.prog 42 [.list 1 (wT.map PV.str), .list 1 (kC.map PV.str)] (.bool R) := by
 rw [slices_Equal_string] at hh
 refine VK rfl ?_
 refine zb fun K kk hK => ?_
 simp only [go_sem]
 refine hK _ _ fun nx => ?_; clear hK K; try clear kk
 refine zn ?_
 refine zb fun K kk hK => ?_
 simp only [go_sem]
 refine hK _ _ fun nx => ?_; clear hK K; try clear kk
 by_cases h1 : ((wT.length : Int) != (kC.length : Int)) = true
 ·rw [if_pos h1] at hh
  refine zm (by first | exact congrArg PV.bool h1 | rfl) ?_
  refine zb fun K kk hK => ?_
  simp only [go_sem]
  refine hK _ _ fun nx => ?_; clear hK K; try clear kk
  refine zk ?_; refine nmx ?_
  obtain hR := Option.some.inj hh
  subst hR
  exact zy
 ·rw [if_neg h1] at hh
  replace h1 := Bool.eq_false_iff.mpr h1
  refine zi (by first | exact congrArg PV.bool h1 | rfl) ?_
  refine zt ?_; refine nmx ?_
  refine zn ?_
  refine zb fun K kk hK => ?_
  simp only [go_sem]
  refine hK _ _ fun nx => ?_; clear hK K; try clear kk
  obtain ⟨e0, f0, hh⟩ := zf hh
  obtain ⟨hlen0, f0⟩ := qf f0
  refine qH (w9 (fun s => .inr () = e0 ∧ ∃ (WA : Int) (WJ : Bool) (nx : Nat), s = ⟨[(0, .list 1 (wT.map PV.str)), (1, .list 1 (kC.map PV.str)), (12, .int .i64 (wT.length : Int)), (13, .int .i64 WA), (14, .bool WJ)], [], nx⟩))
   (fun i s => False)
   (fun s => ∃ wS, .inl wS = e0 ∧ zS Tryd.prog [.tmp 4] (.bool wS) [] .ret s) ?_ ?_ ?_ ?_
  ·refine zA ?_
   refine qb fun I hI => ?_
   have key : ∀ (suf pre : List Str) (v_5 : Int), wT = pre ++ suf → v_5 = (pre.length : Int) → qU kC suf v_5 = some e0 → ∀ (nx : Nat), I ⟨[(0, .list 1 (wT.map PV.str)), (1, .list 1 (kC.map PV.str)), (12, .int .i64 (wT.length : Int)), (13, .int .i64 v_5)], [], nx⟩ := by
    intro suf
    induction suf with
    | nil =>
     intro pre v_5 hsplit hidx hh nx
     rw [qU] at hh
     refine hI _ ?_
     have h10 := walk_nil hsplit hidx
     refine zb fun K kk hK => ?_
     simp only [go_sem]
     refine hK _ _ fun nx => ?_; clear hK K; try clear kk
     refine zn ?_
     refine zi (by first | exact congrArg PV.bool h10 | rfl) ?_
     refine zU ?_; refine nmx ?_
     refine wU ?_
     refine zG ?_
     refine ⟨(Option.some.inj hh), ?_⟩
     first | exact ⟨_, _, _, rfl⟩ | (simp only [pvE, lsE, zo]; exact ⟨_, _, _, rfl⟩) | (simp only [pvE, lsE, zo, h1, h10]; exact ⟨_, _, _, rfl⟩)
    | cons y_8 suf ih =>
     intro pre v_5 hsplit hidx hh nx
     rw [qU] at hh
     refine hI _ ?_
     obtain ⟨hl0a, hl0b, hl0d, hl0w, h10⟩ := qX (f := PV.str) hsplit hidx hlen0
     refine zb fun K kk hK => ?_
     simp only [go_sem]
     refine hK _ _ fun nx => ?_; clear hK K; try clear kk
     refine zn ?_
     refine zm (by first | exact congrArg PV.bool h10 | rfl) ?_
     refine zt ?_; refine nmx ?_
     refine zn ?_
     refine zA ?_
     refine zb fun K kk hK => ?_
     simp only [go_sem, hl0a, hl0b, hl0d, hl0w]
     refine hK _ _ fun nx => ?_; clear hK K; try clear kk
     obtain ⟨x_9, h11, hh⟩ := zf hh
     obtain ⟨h11a, h11b, h11c⟩ := rd_some h11
     have h11d := wN (f := PV.str) h11c
     have h11f := qG (f := PV.str) h11c
     try simp only [Int.toNat_natCast, Int.reduceToNat] at h11d h11f
     refine zb fun K kk hK => ?_
     simp only [go_sem, h11a, h11b, h11d, h11f.1, h11f.2, hl0a, hl0b, hl0d, hl0w]
     (repeat refine sd ?_)
     refine hK _ _ fun nx => ?_; clear hK K; try clear kk
     by_cases h12 : (!(y_8 == x_9)) = true
     ·rw [if_pos h12] at hh
      refine zm (by first | exact congrArg PV.bool h12 | rfl) ?_
      refine zb fun K kk hK => ?_
      simp only [go_sem, hl0a, hl0b, hl0d, hl0w]
      refine hK _ _ fun nx => ?_; clear hK K; try clear kk
      refine zk ?_; refine nmx ?_
      refine QF ⟨_, (Option.some.inj hh), ?_⟩
      exact zy
     ·rw [if_neg h12] at hh
      replace h12 := Bool.eq_false_iff.mpr h12
      refine zi (by first | exact congrArg PV.bool h12 | rfl) ?_
      refine zt ?_; refine nmx ?_
      refine zq fun K kk hK => ?_
      simp only [go_sem, hl0a, hl0b, hl0d, hl0w]
      refine hK _ _ fun nx => ?_; clear hK K; try clear kk
      refine nmx ?_
      have ih' := ih (pre ++ [y_8]) (v_5 + 1) (by rw [hsplit]; simp) (by simp [hidx]) hh nx
      refine zG ?_
      first | exact ih' | (simp only [pvE, lsE, zo] at ih' ⊢; exact ih') | (simp only [pvE, lsE, zo, h1, h10, h12] at ih' ⊢; exact ih')
   exact key wT [] _ rfl rfl f0 _
  ·rintro s ⟨t, hless, rfl, WA, WJ, nx, rfl⟩
   try dsimp only at hh
   refine nmy ?_
   first | (refine wG hless ?_; try refine ku ?_) | refine qP hless ?_ | refine qQ hless ?_
   refine zb fun K kk hK => ?_
   simp only [go_sem]
   refine hK _ _ fun nx => ?_; clear hK K; try clear kk
   refine zk ?_; refine nmx ?_
   obtain hR := Option.some.inj hh
   subst hR
   exact zy
  ·intro i s h; exact h.elim
  ·rintro s ⟨wS, rfl, hb⟩
   try dsimp only at hh
   obtain hR := Option.some.inj hh
   subst hR
   refine nmx ?_
   exact hb
theorem Jr (a_1 : za) (b_2 : za) (R : Bool) (hh : ZN a_1 b_2 = some R) : PC Tryd.prog 104 [.agg [.str a_1.Kind, .str a_1.Text, .list 1 (a_1.Marks.map PV.str), .list 2 (a_1.zh.map ze.pv), .list 5 (a_1.Kids.map za.pv)], .agg [.str b_2.Kind, .str b_2.Text, .list 1 (b_2.Marks.map PV.str), .list 2 (b_2.zh.map ze.pv), .list 5 (b_2.Kids.map za.pv)]] (.bool R) := by
 rw [ZN] at hh
 refine aeu rfl ?_
 refine zb fun K kk hK => ?_
 simp only [go_sem]
 refine hK _ _ fun nx => ?_; clear hK K; try clear kk
 obtain ⟨ahQ, h1, hh⟩ := zf hh
 by_cases h2 : (ahQ) = true
 ·rw [if_pos h2] at hh
  obtain ⟨agO, h3, hh⟩ := zf hh
  by_cases h4 : (agO) = true
  ·rw [if_pos h4] at hh
   obtain ⟨amm, h5, hh⟩ := zf hh
   refine zb fun K kk hK => ?_
   simp only [go_sem, h2, h4]
   (repeat refine sd ?_)
   refine zg (kH _ _ h1) (by (try simp only [go_sem, h2, h4]) <;> exact wkl) (by rfl) (by rfl) ?_
   simp only [go_sem, h2, h4]
   (repeat refine sd ?_)
   refine zg (kH _ _ h3) (by (try simp only [go_sem, h2, h4]) <;> exact wkl) (by rfl) (by rfl) ?_
   simp only [go_sem, h2, h4]
   (repeat refine sd ?_)
   refine zg (jk _ _ _ h5) (by (try simp only [go_sem, h2, h4]) <;> exact wkl) (by rfl) (by rfl) ?_
   simp only [go_sem, h2, h4]
   (repeat refine sd ?_)
   refine hK _ _ fun nx => ?_; clear hK K; try clear kk
   refine zk ?_; refine nmx ?_
   obtain hR := Option.some.inj hh
   subst hR
   exact zy
  ·rw [if_neg h4] at hh
   replace h4 := Bool.eq_false_iff.mpr h4
   refine zb fun K kk hK => ?_
   simp only [go_sem, h2, h4]
   (repeat refine sd ?_)
   refine zg (kH _ _ h1) (by (try simp only [go_sem, h2, h4]) <;> exact wkl) (by rfl) (by rfl) ?_
   simp only [go_sem, h2, h4]
   (repeat refine sd ?_)
   refine zg (kH _ _ h3) (by (try simp only [go_sem, h2, h4]) <;> exact wkl) (by rfl) (by rfl) ?_
   simp only [go_sem, h2, h4]
   (repeat refine sd ?_)
   refine hK _ _ fun nx => ?_; clear hK K; try clear kk
   refine zk ?_; refine nmx ?_
   obtain hR := Option.some.inj hh
   subst hR
   exact zy
 ·rw [if_neg h2] at hh
  replace h2 := Bool.eq_false_iff.mpr h2
  refine zb fun K kk hK => ?_
  simp only [go_sem, h2]
  (repeat refine sd ?_)
  refine zg (kH _ _ h1) (by (try simp only [go_sem, h2]) <;> exact wkl) (by rfl) (by rfl) ?_
  simp only [go_sem, h2]
  (repeat refine sd ?_)
  refine hK _ _ fun nx => ?_; clear hK K; try clear kk
  refine zk ?_; refine nmx ?_
  obtain hR := Option.some.inj hh
  subst hR
  exact zy
theorem afL (s : Str) (cutset : Str) (R : Str) (hh : KV s cutset = some R) : PC Tryd.prog 102 [.str s, .str cutset] (.str R) := by
 rw [KV] at hh
 exact aq2 (tr := Lib.trimS) ⟨_, Tryd.func102, by kernel_rfl, by kernel_rfl⟩ (fun s c w h1 h2 h3 => Any.strings_Trim_laid Tryd.atg (by kernel_rfl) s c w h1 h2 h3) s cutset R hh
theorem wh (s_1 : Str) (R : Bool) (hh : yN s_1 = some R) : PC Tryd.prog 80 [.str s_1] (.bool R) := by
 rw [yN] at hh
 refine afG rfl ?_
 refine zb fun K kk hK => ?_
 simp only [go_sem]
 refine hK _ _ fun nx => ?_; clear hK K; try clear kk
 obtain ⟨ang, h1, hh⟩ := zf hh
 refine zb fun K kk hK => ?_
 simp only [go_sem]
 refine zg (afL _ _ _ h1) (by (try simp only [go_sem]) <;> exact wkl) (by rfl) (by rfl) ?_
 simp only [go_sem]
 refine hK _ _ fun nx => ?_; clear hK K; try clear kk
 by_cases h2 : (ang == ([] : Str)) = true
 ·rw [if_pos h2] at hh
  by_cases h3 : (!(s_1 == ([] : Str))) = true
  ·rw [if_pos h3] at hh
   by_cases h4 : (decide ((s_1.length : Int) ≤ (8 : Int))) = true
   ·rw [if_pos h4] at hh
    refine zb fun K kk hK => ?_
    simp only [go_sem, h2, h3, h4, of_decide_eq_true h4]
    (repeat refine sd ?_)
    refine hK _ _ fun nx => ?_; clear hK K; try clear kk
    refine zk ?_; refine nmx ?_
    obtain hR := Option.some.inj hh
    subst hR
    exact zy
   ·rw [if_neg h4] at hh
    replace h4 := Bool.eq_false_iff.mpr h4
    refine zb fun K kk hK => ?_
    simp only [go_sem, h2, h3, h4, of_decide_eq_false h4]
    (repeat refine sd ?_)
    refine hK _ _ fun nx => ?_; clear hK K; try clear kk
    refine zk ?_; refine nmx ?_
    obtain hR := Option.some.inj hh
    subst hR
    exact zy
  ·rw [if_neg h3] at hh
   replace h3 := Bool.eq_false_iff.mpr h3
   refine zb fun K kk hK => ?_
   simp only [go_sem, h2, h3]
   (repeat refine sd ?_)
   refine hK _ _ fun nx => ?_; clear hK K; try clear kk
   refine zk ?_; refine nmx ?_
   obtain hR := Option.some.inj hh
   subst hR
   exact zy
 ·rw [if_neg h2] at hh
  replace h2 := Bool.eq_false_iff.mpr h2
  refine zb fun K kk hK => ?_
  simp only [go_sem, h2]
  (repeat refine sd ?_)
  refine hK _ _ fun nx => ?_; clear hK K; try clear kk
  refine zk ?_; refine nmx ?_
  obtain hR := Option.some.inj hh
  subst hR
  exact zy
theorem Xd (l_1 : (List Str)) (R : Bool) (hh : K7 l_1 = some R) : PC Tryd.prog 111 [.list 1 (l_1.map PV.str)] (.bool R) := by
 rw [K7] at hh
 refine afy rfl ?_
 refine zb fun K kk hK => ?_
 simp only [go_sem]
 refine hK _ _ fun nx => ?_; clear hK K; try clear kk
 refine zn ?_
 refine zb fun K kk hK => ?_
 simp only [go_sem]
 refine hK _ _ fun nx => ?_; clear hK K; try clear kk
 obtain ⟨e0, f0, hh⟩ := zf hh
 obtain ⟨hlen0, f0⟩ := qf f0
 refine qH (w9 (fun s => .inr () = e0 ∧ ∃ (Ji : Int) (Zh : Bool) (nx : Nat), s = ⟨[(0, .list 1 (l_1.map PV.str)), (5, .list 1 (l_1.map PV.str)), (6, .int .i64 (l_1.length : Int)), (7, .int .i64 Ji), (8, .bool Zh)], [], nx⟩))
  (fun i s => False)
  (fun s => ∃ agM, .inl agM = e0 ∧ zS Tryd.prog [.tmp 2] (.bool agM) [] .ret s) ?_ ?_ ?_ ?_
 ·refine zA ?_
  refine qb fun I hI => ?_
  have key : ∀ (suf pre : List Str) (v_5 : Int), l_1 = pre ++ suf → v_5 = (pre.length : Int) → vH l_1 suf v_5 = some e0 → ∀ (nx : Nat), I ⟨[(0, .list 1 (l_1.map PV.str)), (5, .list 1 (l_1.map PV.str)), (6, .int .i64 (l_1.length : Int)), (7, .int .i64 v_5)], [], nx⟩ := by
   intro suf
   induction suf with
   | nil =>
    intro pre v_5 hsplit hidx hh nx
    rw [vH] at hh
    refine hI _ ?_
    have h15 := walk_nil hsplit hidx
    refine zb fun K kk hK => ?_
    simp only [go_sem]
    refine hK _ _ fun nx => ?_; clear hK K; try clear kk
    refine zn ?_
    refine zi (by first | exact congrArg PV.bool h15 | rfl) ?_
    refine zU ?_; refine nmx ?_
    refine wU ?_
    refine zG ?_
    refine ⟨(Option.some.inj hh), ?_⟩
    first | exact ⟨_, _, _, rfl⟩ | (simp only [pvE, lsE, zo]; exact ⟨_, _, _, rfl⟩) | (simp only [pvE, lsE, zo, h15]; exact ⟨_, _, _, rfl⟩)
   | cons y_9 suf ih =>
    intro pre v_5 hsplit hidx hh nx
    rw [vH] at hh
    refine hI _ ?_
    obtain ⟨hl0a, hl0b, hl0d, hl0w, h15⟩ := qX (f := PV.str) hsplit hidx hlen0
    refine zb fun K kk hK => ?_
    simp only [go_sem]
    refine hK _ _ fun nx => ?_; clear hK K; try clear kk
    refine zn ?_
    refine zm (by first | exact congrArg PV.bool h15 | rfl) ?_
    refine zt ?_; refine nmx ?_
    refine zn ?_
    refine zA ?_
    refine zb fun K kk hK => ?_
    simp only [go_sem, hl0a, hl0b, hl0d, hl0w]
    refine hK _ _ fun nx => ?_; clear hK K; try clear kk
    obtain ⟨akM, h16, hh⟩ := zf hh
    by_cases h17 : (!akM) = true
    ·rw [if_pos h17] at hh
     refine zb fun K kk hK => ?_
     simp only [go_sem, h17, hl0a, hl0b, hl0d, hl0w]
     (repeat refine sd ?_)
     refine zg (wh _ _ h16) (by (try simp only [go_sem, h17, hl0a, hl0b, hl0d, hl0w]) <;> exact wkl) (by rfl) (by rfl) ?_
     simp only [go_sem, h17, hl0a, hl0b, hl0d, hl0w]
     (repeat refine sd ?_)
     refine hK _ _ fun nx => ?_; clear hK K; try clear kk
     refine zm rfl ?_
     refine zb fun K kk hK => ?_
     simp only [go_sem, hl0a, hl0b, hl0d, hl0w]
     refine hK _ _ fun nx => ?_; clear hK K; try clear kk
     refine zk ?_; refine nmx ?_
     refine QF ⟨_, (Option.some.inj hh), ?_⟩
     exact zy
    ·rw [if_neg h17] at hh
     replace h17 := Bool.eq_false_iff.mpr h17
     by_cases h18 : (decide (v_5 > (0 : Int))) = true
     ·rw [if_pos h18] at hh
      obtain ⟨acx, h19, hh⟩ := zf hh
      obtain ⟨h19a, h19b, h19c⟩ := rd_some h19
      have h19d := wN (f := PV.str) h19c
      have h19f := qG (f := PV.str) h19c
      try simp only [Int.toNat_natCast, Int.reduceToNat] at h19d h19f
      refine zb fun K kk hK => ?_
      simp only [go_sem, h17, h18, of_decide_eq_true h18, h19a, h19b, h19d, h19f.1, h19f.2, hl0a, hl0b, hl0d, hl0w]
      (repeat refine sd ?_)
      refine zg (wh _ _ h16) (by (try simp only [go_sem, h17, h18, of_decide_eq_true h18, h19a, h19b, h19d, h19f.1, h19f.2, hl0a, hl0b, hl0d, hl0w]) <;> exact wkl) (by rfl) (by rfl) ?_
      simp only [go_sem, h17, h18, of_decide_eq_true h18, h19a, h19b, h19d, h19f.1, h19f.2, hl0a, hl0b, hl0d, hl0w]
      (repeat refine sd ?_)
      refine hK _ _ fun nx => ?_; clear hK K; try clear kk
      by_cases h20 : ((Op.bytesLess y_9 acx || y_9 == acx)) = true
      ·rw [if_pos h20] at hh
       refine zm (by first | exact congrArg PV.bool h20 | rfl) ?_
       refine zb fun K kk hK => ?_
       simp only [go_sem, hl0a, hl0b, hl0d, hl0w]
       refine hK _ _ fun nx => ?_; clear hK K; try clear kk
       refine zk ?_; refine nmx ?_
       refine QF ⟨_, (Option.some.inj hh), ?_⟩
       exact zy
      ·rw [if_neg h20] at hh
       replace h20 := Bool.eq_false_iff.mpr h20
       refine zi (by first | exact congrArg PV.bool h20 | rfl) ?_
       refine zt ?_; refine nmx ?_
       refine zq fun K kk hK => ?_
       simp only [go_sem, hl0a, hl0b, hl0d, hl0w]
       refine hK _ _ fun nx => ?_; clear hK K; try clear kk
       refine nmx ?_
       have ih' := ih (pre ++ [y_9]) (v_5 + 1) (by rw [hsplit]; simp) (by simp [hidx]) hh nx
       refine zG ?_
       first | exact ih' | (simp only [pvE, lsE, zo] at ih' ⊢; exact ih') | (simp only [pvE, lsE, zo, h15, h17, h18, h20] at ih' ⊢; exact ih')
     ·rw [if_neg h18] at hh
      replace h18 := Bool.eq_false_iff.mpr h18
      refine zb fun K kk hK => ?_
      simp only [go_sem, h17, h18, of_decide_eq_false h18, hl0a, hl0b, hl0d, hl0w]
      (repeat refine sd ?_)
      refine zg (wh _ _ h16) (by (try simp only [go_sem, h17, h18, of_decide_eq_false h18, hl0a, hl0b, hl0d, hl0w]) <;> exact wkl) (by rfl) (by rfl) ?_
      simp only [go_sem, h17, h18, of_decide_eq_false h18, hl0a, hl0b, hl0d, hl0w]
      (repeat refine sd ?_)
      refine hK _ _ fun nx => ?_; clear hK K; try clear kk
      refine zi rfl ?_
      refine zt ?_; refine nmx ?_
      refine zq fun K kk hK => ?_
      simp only [go_sem, hl0a, hl0b, hl0d, hl0w]
      refine hK _ _ fun nx => ?_; clear hK K; try clear kk
      refine nmx ?_
      have ih' := ih (pre ++ [y_9]) (v_5 + 1) (by rw [hsplit]; simp) (by simp [hidx]) hh nx
      refine zG ?_
      first | exact ih' | (simp only [pvE, lsE, zo] at ih' ⊢; exact ih') | (simp only [pvE, lsE, zo, h15, h17, h18] at ih' ⊢; exact ih')
  exact key l_1 [] _ rfl rfl f0 _
 ·rintro s ⟨t, hless, rfl, Ji, Zh, nx, rfl⟩
  try dsimp only at hh
  refine nmy ?_
  first | (refine wG hless ?_; try refine ku ?_) | refine qP hless ?_ | refine qQ hless ?_
  refine zb fun K kk hK => ?_
  simp only [go_sem]
  refine hK _ _ fun nx => ?_; clear hK K; try clear kk
  refine zk ?_; refine nmx ?_
  obtain hR := Option.some.inj hh
  subst hR
  exact zy
 ·intro i s h; exact h.elim
 ·rintro s ⟨agM, rfl, hb⟩
  try dsimp only at hh
  obtain hR := Option.some.inj hh
  subst hR
  refine nmx ?_
  exact hb
theorem Jk (s_1 : Str) (R : Bool) (hh : Wz s_1 = some R) : PC Tryd.prog 81 [.str s_1] (.bool R) := by
 rw [Wz] at hh
 refine ad6 rfl ?_
 refine zb fun K kk hK => ?_
 simp only [go_sem]
 refine hK _ _ fun nx => ?_; clear hK K; try clear kk
 by_cases h1 : (decide ((s_1.length : Int) ≤ (40 : Int))) = true
 ·rw [if_pos h1] at hh
  obtain ⟨alT, h2, hh⟩ := zf hh
  refine zb fun K kk hK => ?_
  simp only [go_sem, h1, of_decide_eq_true h1]
  (repeat refine sd ?_)
  refine zg (kQ _ _ h2) (by (try simp only [go_sem, h1, of_decide_eq_true h1]) <;> exact wkl) (by rfl) (by rfl) ?_
  simp only [go_sem, h1, of_decide_eq_true h1]
  (repeat refine sd ?_)
  refine hK _ _ fun nx => ?_; clear hK K; try clear kk
  refine zk ?_; refine nmx ?_
  obtain hR := Option.some.inj hh
  subst hR
  exact zy
 ·rw [if_neg h1] at hh
  replace h1 := Bool.eq_false_iff.mpr h1
  refine zb fun K kk hK => ?_
  simp only [go_sem, h1, of_decide_eq_false h1]
  (repeat refine sd ?_)
  refine hK _ _ fun nx => ?_; clear hK K; try clear kk
  refine zk ?_; refine nmx ?_
  obtain hR := Option.some.inj hh
  subst hR
  exact zy
end Go.Proofs.YtclohbgnaopjfaaDoor
