/- Texts of the proof of diffMakesCard -/
import Derived.Test.YtclohbgnaopjfaaDoorAgC
import Derived.Test.YtclohbgnaopjfaaDoorAgF
import Derived.Test.YtclohbgnaopjfaaDoorAgL
namespace Go.Proofs.YtclohbgnaopjfaaDoor
set_option linter.unusedSimpArgs false
set_option linter.unusedVariables false
open Go
set_option maxRecDepth 100000
theorem kV (n_1 : za) (R : Bool) (hh : jO n_1 = some R) : PC Tryd.prog 58 [.agg [.str n_1.Kind, .str n_1.Text, .list 1 (n_1.Marks.map PV.str), .list 2 (n_1.zh.map ze.pv), .list 5 (n_1.Kids.map za.pv)]] (.bool R) := by
 rw [jO] at hh
 refine adt rfl ?_
 refine zb fun K kk hK => ?_
 simp only [go_sem]
 refine hK _ _ fun nx => ?_; clear hK K; try clear kk
 refine zb fun K kk hK => ?_
 simp only [go_sem]
 refine hK _ _ fun nx => ?_; clear hK K; try clear kk
 refine zk ?_; refine nmx ?_
 obtain hR := Option.some.inj hh
 subst hR
 exact zz
theorem QH (s_1 : Str) (R : Int) (hh : wG s_1 = some R) : PC Tryd.prog 63 [.str s_1] (.int .i64 R) := by
 rw [wG] at hh
 refine Zw rfl ?_
 refine zb fun K kk hK => ?_
 simp only [go_sem]
 refine hK _ _ fun nx => ?_; clear hK K; try clear kk
 refine zm ?_
 refine zb fun K kk hK => ?_
 simp only [go_sem]
 refine hK _ _ fun nx => ?_; clear hK K; try clear kk
 obtain ⟨e0, f0, hh⟩ := zf hh
 refine qD (kE (fun s => ∃ n_4, n_4 = e0 ∧ ∃ (v_5 : Nat) (nx : Nat) (g4 : Nat), s = ⟨[(2, .int .i64 n_4), (4, .box 4 g4 0), (6, .bool false)], [(4, g4, .iter s_1 v_5)], nx⟩))
  (fun i s => False)
  (fun s => False) ?_ ?_ ?_ ?_
 ·refine zC ?_
  refine qg fun I hI => ?_
  obtain ⟨k, f0⟩ := jA f0
  have key : ∀ (k : Nat) (n_2 : Int) (v_3 : Nat), zO s_1 k n_2 v_3 = some e0 → ∀ (nx : Nat) (g4 : Nat), I ⟨[(2, .int .i64 n_2), (4, .box 4 g4 0)], [(4, g4, .iter s_1 v_3)], nx⟩ := by
   intro k
   induction k with
   | zero => intro n_2 v_3 hh; rw [zO] at hh; cases hh
   | succ k ih =>
    intro n_2 v_3 hh nx g4
    rw [zO] at hh
    refine hI _ ?_
    by_cases h2 : (decide (v_3 < s_1.length)) = true
    ·rw [if_pos h2] at hh
     refine zb fun K kk hK => ?_
     simp only [go_sem, h2, of_decide_eq_true h2]
     (repeat refine sd ?_)
     refine hK _ _ fun nx => ?_; clear hK K; try clear kk
     refine zm ?_
     refine zn rfl ?_
     refine zy ?_; refine nmx ?_
     refine zC ?_
     refine zq fun K kk hK => ?_
     simp only [go_sem]
     refine hK _ _ fun nx => ?_; clear hK K; try clear kk
     refine nmx ?_
     have ih' := ih _ _ hh nx
     refine zG ?_
     first | exact ih' _ | (simp only [pvE, lsE, zo] at ih' ⊢; exact ih' _) | (simp only [pvE, lsE, zo, h2] at ih' ⊢; exact ih' _)
    ·rw [if_neg h2] at hh
     replace h2 := Bool.eq_false_iff.mpr h2
     refine zb fun K kk hK => ?_
     simp only [go_sem, h2, of_decide_eq_false h2]
     (repeat refine sd ?_)
     refine hK _ _ fun nx => ?_; clear hK K; try clear kk
     refine zm ?_
     refine zi rfl ?_
     refine zU ?_; refine nmx ?_
     refine wJ ?_
     refine zG ?_
     refine ⟨_, (Option.some.inj hh), ?_⟩
     first | exact ⟨_, _, _, rfl⟩ | (simp only [pvE, lsE, zo]; exact ⟨_, _, _, rfl⟩) | (simp only [pvE, lsE, zo, h2]; exact ⟨_, _, _, rfl⟩)
  exact key _ _ _ f0 _ _
 ·rintro s ⟨t, hless, n_4, rfl, v_5, nx, g4, rfl⟩
  try dsimp only at hh
  refine nmy ?_
  first | (refine wB hless ?_; try refine kC ?_) | refine qK hless ?_ | refine qI hless ?_
  refine zb fun K kk hK => ?_
  simp only [go_sem]
  refine hK _ _ fun nx => ?_; clear hK K; try clear kk
  refine zk ?_; refine nmx ?_
  obtain hR := Option.some.inj hh
  subst hR
  exact zz
 ·intro i s h; exact h.elim
 ·intro s h; exact h.elim
theorem abk : ∀ kr : Nat, (∀ (n_1 : za) (R : Int), jJ kr n_1 = some R → PC Tryd.prog 34 [.agg [.str n_1.Kind, .str n_1.Text, .list 1 (n_1.Marks.map PV.str), .list 2 (n_1.zh.map ze.pv), .list 5 (n_1.Kids.map za.pv)]] (.int .i64 R)) ∧
  (∀ (l_1 : (List za)) (R : Int), yw kr l_1 = some R → PC Tryd.prog 27 [.list 5 (l_1.map za.pv)] (.int .i64 R)) := by
 intro kr
 induction kr with
 | zero => exact ⟨(by intro n_1 R hh; rw [jJ] at hh; cases hh), (by intro l_1 R hh; rw [yw] at hh; cases hh)⟩
 | succ kr ih =>
  obtain ⟨ih_node_Size, ih_node_Total⟩ := ih
  refine ⟨?_, ?_⟩
  ·intro n_1 R hh
   rw [jJ] at hh
   refine agh rfl ?_
   refine zb fun K kk hK => ?_
   simp only [go_sem]
   refine hK _ _ fun nx => ?_; clear hK K; try clear kk
   refine zm ?_
   obtain ⟨y8, h1, hh⟩ := zf hh
   refine zb fun K kk hK => ?_
   simp only [go_sem]
   refine zg (kV _ _ h1) (by (try simp only [go_sem]) <;> exact wkl) (by rfl) (by rfl) ?_
   simp only [go_sem]
   refine hK _ _ fun nx => ?_; clear hK K; try clear kk
   by_cases h2 : (y8) = true
   ·rw [if_pos h2] at hh
    refine zn (by first | exact congrArg PV.bool h2 | rfl) ?_
    obtain ⟨am4, h3, hh⟩ := zf hh
    refine zb fun K kk hK => ?_
    simp only [go_sem]
    refine zg (QH _ _ h3) (by (try simp only [go_sem]) <;> exact wkl) (by rfl) (by rfl) ?_
    simp only [go_sem]
    refine hK _ _ fun nx => ?_; clear hK K; try clear kk
    refine zk ?_; refine nmx ?_
    obtain hR := Option.some.inj hh
    subst hR
    exact zz
   ·rw [if_neg h2] at hh
    replace h2 := Bool.eq_false_iff.mpr h2
    refine zi (by first | exact congrArg PV.bool h2 | rfl) ?_
    refine zy ?_; refine nmx ?_
    obtain ⟨aqw, h4, hh⟩ := zf hh
    refine zb fun K kk hK => ?_
    simp only [go_sem]
    refine zg (ih_node_Total _ _ h4) (by (try simp only [go_sem]) <;> exact wkl) (by rfl) (by rfl) ?_
    simp only [go_sem]
    refine hK _ _ fun nx => ?_; clear hK K; try clear kk
    refine zk ?_; refine nmx ?_
    obtain hR := Option.some.inj hh
    subst hR
    exact zz
  ·intro l_1 R hh
   rw [yw] at hh
   refine afq rfl ?_
   refine zb fun K kk hK => ?_
   simp only [go_sem]
   refine hK _ _ fun nx => ?_; clear hK K; try clear kk
   refine zb fun K kk hK => ?_
   simp only [go_sem]
   refine hK _ _ fun nx => ?_; clear hK K; try clear kk
   refine zm ?_
   refine zb fun K kk hK => ?_
   simp only [go_sem]
   refine hK _ _ fun nx => ?_; clear hK K; try clear kk
   obtain ⟨e0, f0, hh⟩ := zf hh
   obtain ⟨hlen0, f0⟩ := qo f0
   refine qD (kE (fun s => ∃ adF, adF = e0 ∧ ∃ (WO : Int) (Kn : Bool) (nx : Nat), s = ⟨[(3, .int .i64 adF), (6, .list 5 (l_1.map za.pv)), (7, .int .i64 (l_1.length : Int)), (8, .int .i64 WO), (9, .bool Kn)], [], nx⟩))
    (fun i s => False)
    (fun s => False) ?_ ?_ ?_ ?_
   ·refine zC ?_
    refine qg fun I hI => ?_
    have key : ∀ (suf pre : List za) (v_5 : Int) (YN : Int), l_1 = pre ++ suf → v_5 = (pre.length : Int) → jK (jJ kr) suf v_5 YN = some e0 → ∀ (nx : Nat), I ⟨[(3, .int .i64 YN), (6, .list 5 (l_1.map za.pv)), (7, .int .i64 (l_1.length : Int)), (8, .int .i64 v_5)], [], nx⟩ := by
     intro suf
     induction suf with
     | nil =>
      intro pre v_5 YN hsplit hidx hh nx
      rw [jK] at hh
      refine hI _ ?_
      have h7 := walk_nil hsplit hidx
      refine zb fun K kk hK => ?_
      simp only [go_sem]
      refine hK _ _ fun nx => ?_; clear hK K; try clear kk
      refine zm ?_
      refine zi (by first | exact congrArg PV.bool h7 | rfl) ?_
      refine zU ?_; refine nmx ?_
      refine wJ ?_
      refine zG ?_
      refine ⟨_, (Option.some.inj hh), ?_⟩
      first | exact ⟨_, _, _, rfl⟩ | (simp only [pvE, lsE, zo]; exact ⟨_, _, _, rfl⟩) | (simp only [pvE, lsE, zo, h7]; exact ⟨_, _, _, rfl⟩)
     | cons y_8 suf ih =>
      intro pre v_5 YN hsplit hidx hh nx
      rw [jK] at hh
      refine hI _ ?_
      obtain ⟨hl0a, hl0b, hl0d, hl0w, h7⟩ := qZ (f := za.pv) hsplit hidx hlen0
      refine zb fun K kk hK => ?_
      simp only [go_sem]
      refine hK _ _ fun nx => ?_; clear hK K; try clear kk
      refine zm ?_
      refine zn (by first | exact congrArg PV.bool h7 | rfl) ?_
      refine zy ?_; refine nmx ?_
      refine zm ?_
      refine zC ?_
      refine zb fun K kk hK => ?_
      simp only [go_sem, hl0a, hl0b, hl0d, hl0w]
      refine hK _ _ fun nx => ?_; clear hK K; try clear kk
      obtain ⟨asz, h8, hh⟩ := zf hh
      refine zq fun K kk hK => ?_
      simp only [go_sem, hl0a, hl0b, hl0d, hl0w]
      refine zg (ih_node_Size _ _ h8) (by (try simp only [go_sem, hl0a, hl0b, hl0d, hl0w]) <;> exact wkl) (by rfl) (by rfl) ?_
      simp only [go_sem, hl0a, hl0b, hl0d, hl0w]
      refine hK _ _ fun nx => ?_; clear hK K; try clear kk
      refine nmx ?_
      refine zq fun K kk hK => ?_
      simp only [go_sem, hl0a, hl0b, hl0d, hl0w]
      refine hK _ _ fun nx => ?_; clear hK K; try clear kk
      refine nmx ?_
      have ih' := ih (pre ++ [y_8]) (v_5 + 1) _ (by rw [hsplit]; simp) (by simp [hidx]) hh nx
      refine zG ?_
      first | exact ih' | (simp only [pvE, lsE, zo] at ih' ⊢; exact ih') | (simp only [pvE, lsE, zo, h7] at ih' ⊢; exact ih')
    exact key l_1 [] _ _ rfl rfl f0 _
   ·rintro s ⟨t, hless, adF, rfl, WO, Kn, nx, rfl⟩
    try dsimp only at hh
    refine nmy ?_
    first | (refine wB hless ?_; try refine kC ?_) | refine qK hless ?_ | refine qI hless ?_
    refine zb fun K kk hK => ?_
    simp only [go_sem]
    refine hK _ _ fun nx => ?_; clear hK K; try clear kk
    refine zk ?_; refine nmx ?_
    obtain hR := Option.some.inj hh
    subst hR
    exact zz
   ·intro i s h; exact h.elim
   ·intro s h; exact h.elim
theorem Wn (n_1 : za) (R : Int) (hh : Ze n_1 = some R) : PC Tryd.prog 34 [.agg [.str n_1.Kind, .str n_1.Text, .list 1 (n_1.Marks.map PV.str), .list 2 (n_1.zh.map ze.pv), .list 5 (n_1.Kids.map za.pv)]] (.int .i64 R) := by
 rw [Ze] at hh
 obtain ⟨kr, hh⟩ := jA hh
 exact (abk kr).1 _ _ hh
theorem jM (l_1 : (List za)) (R : Int) (hh : jq l_1 = some R) : PC Tryd.prog 27 [.list 5 (l_1.map za.pv)] (.int .i64 R) := by
 rw [jq] at hh
 obtain ⟨kr, hh⟩ := jA hh
 exact (abk kr).2 _ _ hh
theorem ve (s : Str) (R : Bool) (hh : wU s = some R) : PC Tryd.prog 103 [.str s] (.bool R) := by
 rw [wU] at hh
 exact agC ⟨_, Tryd.func103, by kernel_rfl, by kernel_rfl⟩ (fun s w h1 h2 => Any.utf8_ValidString Tryd.apL s w h1 (axf h2)) s R hh
theorem jI (kF : (List Str)) (kQ : (List Str)) (R : Bool) (hh : slices_Equal_string kF kQ = some R) : PC Tryd.prog 42 [.list 1 (kF.map PV.str), .list 1 (kQ.map PV.str)] (.bool R) := by
 rw [slices_Equal_string] at hh
 refine Jm rfl ?_
 refine zb fun K kk hK => ?_
 simp only [go_sem]
 refine hK _ _ fun nx => ?_; clear hK K; try clear kk
 refine zm ?_
 refine zb fun K kk hK => ?_
 simp only [go_sem]
 refine hK _ _ fun nx => ?_; clear hK K; try clear kk
 by_cases h1 : ((kF.length : Int) != (kQ.length : Int)) = true
 ·rw [if_pos h1] at hh
  refine zn (by first | exact congrArg PV.bool h1 | rfl) ?_
  refine zb fun K kk hK => ?_
  simp only [go_sem]
  refine hK _ _ fun nx => ?_; clear hK K; try clear kk
  refine zk ?_; refine nmx ?_
  obtain hR := Option.some.inj hh
  subst hR
  exact zz
 ·rw [if_neg h1] at hh
  replace h1 := Bool.eq_false_iff.mpr h1
  refine zi (by first | exact congrArg PV.bool h1 | rfl) ?_
  refine zy ?_; refine nmx ?_
  refine zm ?_
  refine zb fun K kk hK => ?_
  simp only [go_sem]
  refine hK _ _ fun nx => ?_; clear hK K; try clear kk
  obtain ⟨e0, f0, hh⟩ := zf hh
  obtain ⟨hlen0, f0⟩ := qo f0
  refine qD (kE (fun s => .inr () = e0 ∧ ∃ (WO : Int) (Kn : Bool) (nx : Nat), s = ⟨[(0, .list 1 (kF.map PV.str)), (1, .list 1 (kQ.map PV.str)), (12, .int .i64 (kF.length : Int)), (13, .int .i64 WO), (14, .bool Kn)], [], nx⟩))
   (fun i s => False)
   (fun s => ∃ kD, .inl kD = e0 ∧ zW Tryd.prog [.tmp 4] (.bool kD) [] .ret s) ?_ ?_ ?_ ?_
  ·refine zC ?_
   refine qg fun I hI => ?_
   have key : ∀ (suf pre : List Str) (v_5 : Int), kF = pre ++ suf → v_5 = (pre.length : Int) → qw kQ suf v_5 = some e0 → ∀ (nx : Nat), I ⟨[(0, .list 1 (kF.map PV.str)), (1, .list 1 (kQ.map PV.str)), (12, .int .i64 (kF.length : Int)), (13, .int .i64 v_5)], [], nx⟩ := by
    intro suf
    induction suf with
    | nil =>
     intro pre v_5 hsplit hidx hh nx
     rw [qw] at hh
     refine hI _ ?_
     have h10 := walk_nil hsplit hidx
     refine zb fun K kk hK => ?_
     simp only [go_sem]
     refine hK _ _ fun nx => ?_; clear hK K; try clear kk
     refine zm ?_
     refine zi (by first | exact congrArg PV.bool h10 | rfl) ?_
     refine zU ?_; refine nmx ?_
     refine wJ ?_
     refine zG ?_
     refine ⟨(Option.some.inj hh), ?_⟩
     first | exact ⟨_, _, _, rfl⟩ | (simp only [pvE, lsE, zo]; exact ⟨_, _, _, rfl⟩) | (simp only [pvE, lsE, zo, h1, h10]; exact ⟨_, _, _, rfl⟩)
    | cons y_8 suf ih =>
     intro pre v_5 hsplit hidx hh nx
     rw [qw] at hh
     refine hI _ ?_
     obtain ⟨hl0a, hl0b, hl0d, hl0w, h10⟩ := qZ (f := PV.str) hsplit hidx hlen0
     refine zb fun K kk hK => ?_
     simp only [go_sem]
     refine hK _ _ fun nx => ?_; clear hK K; try clear kk
     refine zm ?_
     refine zn (by first | exact congrArg PV.bool h10 | rfl) ?_
     refine zy ?_; refine nmx ?_
     refine zm ?_
     refine zC ?_
     refine zb fun K kk hK => ?_
     simp only [go_sem, hl0a, hl0b, hl0d, hl0w]
     refine hK _ _ fun nx => ?_; clear hK K; try clear kk
     obtain ⟨x_9, h11, hh⟩ := zf hh
     obtain ⟨h11a, h11b, h11c⟩ := rd_some h11
     have h11d := wR (f := PV.str) h11c
     have h11f := qM (f := PV.str) h11c
     try simp only [Int.toNat_natCast, Int.reduceToNat] at h11d h11f
     refine zb fun K kk hK => ?_
     simp only [go_sem, h11a, h11b, h11d, h11f.1, h11f.2, hl0a, hl0b, hl0d, hl0w]
     (repeat refine sd ?_)
     refine hK _ _ fun nx => ?_; clear hK K; try clear kk
     by_cases h12 : (!(y_8 == x_9)) = true
     ·rw [if_pos h12] at hh
      refine zn (by first | exact congrArg PV.bool h12 | rfl) ?_
      refine zb fun K kk hK => ?_
      simp only [go_sem, hl0a, hl0b, hl0d, hl0w]
      refine hK _ _ fun nx => ?_; clear hK K; try clear kk
      refine zk ?_; refine nmx ?_
      refine Qn ⟨_, (Option.some.inj hh), ?_⟩
      exact zz
     ·rw [if_neg h12] at hh
      replace h12 := Bool.eq_false_iff.mpr h12
      refine zi (by first | exact congrArg PV.bool h12 | rfl) ?_
      refine zy ?_; refine nmx ?_
      refine zq fun K kk hK => ?_
      simp only [go_sem, hl0a, hl0b, hl0d, hl0w]
      refine hK _ _ fun nx => ?_; clear hK K; try clear kk
      refine nmx ?_
      have ih' := ih (pre ++ [y_8]) (v_5 + 1) (by rw [hsplit]; simp) (by simp [hidx]) hh nx
      refine zG ?_
      first | exact ih' | (simp only [pvE, lsE, zo] at ih' ⊢; exact ih') | (simp only [pvE, lsE, zo, h1, h10, h12] at ih' ⊢; exact ih')
   exact key kF [] _ rfl rfl f0 _
  ·rintro s ⟨t, hless, rfl, WO, Kn, nx, rfl⟩
   try dsimp only at hh
   refine nmy ?_
   first | (refine wB hless ?_; try refine kC ?_) | refine qK hless ?_ | refine qI hless ?_
   refine zb fun K kk hK => ?_
   simp only [go_sem]
   refine hK _ _ fun nx => ?_; clear hK K; try clear kk
   refine zk ?_; refine nmx ?_
   obtain hR := Option.some.inj hh
   subst hR
   exact zz
  ·intro i s h; exact h.elim
  ·rintro s ⟨kD, rfl, hb⟩
   try dsimp only at hh
   obtain hR := Option.some.inj hh
   subst hR
   refine nmx ?_
   exact hb
theorem J8 (a_1 : za) (b_2 : za) (R : Bool) (hh : Z8 a_1 b_2 = some R) : PC Tryd.prog 104 [.agg [.str a_1.Kind, .str a_1.Text, .list 1 (a_1.Marks.map PV.str), .list 2 (a_1.zh.map ze.pv), .list 5 (a_1.Kids.map za.pv)], .agg [.str b_2.Kind, .str b_2.Text, .list 1 (b_2.Marks.map PV.str), .list 2 (b_2.zh.map ze.pv), .list 5 (b_2.Kids.map za.pv)]] (.bool R) := by
 rw [Z8] at hh
 refine ae5 rfl ?_
 refine zb fun K kk hK => ?_
 simp only [go_sem]
 refine hK _ _ fun nx => ?_; clear hK K; try clear kk
 obtain ⟨ag3, h1, hh⟩ := zf hh
 by_cases h2 : (ag3) = true
 ·rw [if_pos h2] at hh
  obtain ⟨ail, h3, hh⟩ := zf hh
  by_cases h4 : (ail) = true
  ·rw [if_pos h4] at hh
   obtain ⟨ano, h5, hh⟩ := zf hh
   refine zb fun K kk hK => ?_
   simp only [go_sem, h2, h4]
   (repeat refine sd ?_)
   refine zg (kV _ _ h1) (by (try simp only [go_sem, h2, h4]) <;> exact wkl) (by rfl) (by rfl) ?_
   simp only [go_sem, h2, h4]
   (repeat refine sd ?_)
   refine zg (kV _ _ h3) (by (try simp only [go_sem, h2, h4]) <;> exact wkl) (by rfl) (by rfl) ?_
   simp only [go_sem, h2, h4]
   (repeat refine sd ?_)
   refine zg (jI _ _ _ h5) (by (try simp only [go_sem, h2, h4]) <;> exact wkl) (by rfl) (by rfl) ?_
   simp only [go_sem, h2, h4]
   (repeat refine sd ?_)
   refine hK _ _ fun nx => ?_; clear hK K; try clear kk
   refine zk ?_; refine nmx ?_
   obtain hR := Option.some.inj hh
   subst hR
   exact zz
  ·rw [if_neg h4] at hh
   replace h4 := Bool.eq_false_iff.mpr h4
   refine zb fun K kk hK => ?_
   simp only [go_sem, h2, h4]
   (repeat refine sd ?_)
   refine zg (kV _ _ h1) (by (try simp only [go_sem, h2, h4]) <;> exact wkl) (by rfl) (by rfl) ?_
   simp only [go_sem, h2, h4]
   (repeat refine sd ?_)
   refine zg (kV _ _ h3) (by (try simp only [go_sem, h2, h4]) <;> exact wkl) (by rfl) (by rfl) ?_
   simp only [go_sem, h2, h4]
   (repeat refine sd ?_)
   refine hK _ _ fun nx => ?_; clear hK K; try clear kk
   refine zk ?_; refine nmx ?_
   obtain hR := Option.some.inj hh
   subst hR
   exact zz
 ·rw [if_neg h2] at hh
  replace h2 := Bool.eq_false_iff.mpr h2
  refine zb fun K kk hK => ?_
  simp only [go_sem, h2]
  (repeat refine sd ?_)
  refine zg (kV _ _ h1) (by (try simp only [go_sem, h2]) <;> exact wkl) (by rfl) (by rfl) ?_
  simp only [go_sem, h2]
  (repeat refine sd ?_)
  refine hK _ _ fun nx => ?_; clear hK K; try clear kk
  refine zk ?_; refine nmx ?_
  obtain hR := Option.some.inj hh
  subst hR
  exact zz
theorem agx (s : Str) (cutset : Str) (R : Str) (hh : Vq s cutset = some R) : PC Tryd.prog 102 [.str s, .str cutset] (.str R) := by
 rw [Vq] at hh
 exact ate (tr := Lib.trimS) ⟨_, Tryd.func102, by kernel_rfl, by kernel_rfl⟩ (fun s c w h1 h2 h3 => Any.strings_Trim_laid Tryd.avq (by kernel_rfl) s c w h1 h2 h3) s cutset R hh
theorem wC (s_1 : Str) (R : Bool) (hh : Zb s_1 = some R) : PC Tryd.prog 80 [.str s_1] (.bool R) := by
 rw [Zb] at hh
 refine agA rfl ?_
 refine zb fun K kk hK => ?_
 simp only [go_sem]
 refine hK _ _ fun nx => ?_; clear hK K; try clear kk
 obtain ⟨aoz, h1, hh⟩ := zf hh
 refine zb fun K kk hK => ?_
 simp only [go_sem]
 refine zg (agx _ _ _ h1) (by (try simp only [go_sem]) <;> exact wkl) (by rfl) (by rfl) ?_
 simp only [go_sem]
 refine hK _ _ fun nx => ?_; clear hK K; try clear kk
 by_cases h2 : (aoz == ([] : Str)) = true
 ·rw [if_pos h2] at hh
  by_cases h3 : (!(s_1 == ([] : Str))) = true
  ·rw [if_pos h3] at hh
   by_cases h4 : (decide ((s_1.length : Int) ≤ (8 : Int))) = true
   ·rw [if_pos h4] at hh
    refine zb fun K kk hK => ?_
    simp only [go_sem, h2, h3, h4, of_decide_eq_true h4]
    (repeat refine sd ?_)
    refine hK _ _ fun nx => ?_; clear hK K; try clear kk
    refine zk ?_; refine nmx ?_
    obtain hR := Option.some.inj hh
    subst hR
    exact zz
   ·rw [if_neg h4] at hh
    replace h4 := Bool.eq_false_iff.mpr h4
    refine zb fun K kk hK => ?_
    simp only [go_sem, h2, h3, h4, of_decide_eq_false h4]
    (repeat refine sd ?_)
    refine hK _ _ fun nx => ?_; clear hK K; try clear kk
    refine zk ?_; refine nmx ?_
    obtain hR := Option.some.inj hh
    subst hR
    exact zz
  ·rw [if_neg h3] at hh
   replace h3 := Bool.eq_false_iff.mpr h3
   refine zb fun K kk hK => ?_
   simp only [go_sem, h2, h3]
   (repeat refine sd ?_)
   refine hK _ _ fun nx => ?_; clear hK K; try clear kk
   refine zk ?_; refine nmx ?_
   obtain hR := Option.some.inj hh
   subst hR
   exact zz
 ·rw [if_neg h2] at hh
  replace h2 := Bool.eq_false_iff.mpr h2
  refine zb fun K kk hK => ?_
  simp only [go_sem, h2]
  (repeat refine sd ?_)
  refine hK _ _ fun nx => ?_; clear hK K; try clear kk
  refine zk ?_; refine nmx ?_
  obtain hR := Option.some.inj hh
  subst hR
  exact zz
theorem Yf (l_1 : (List Str)) (R : Bool) (hh : VB l_1 = some R) : PC Tryd.prog 111 [.list 1 (l_1.map PV.str)] (.bool R) := by
 rw [VB] at hh
 refine agn rfl ?_
 refine zb fun K kk hK => ?_
 simp only [go_sem]
 refine hK _ _ fun nx => ?_; clear hK K; try clear kk
 refine zm ?_
 refine zb fun K kk hK => ?_
 simp only [go_sem]
 refine hK _ _ fun nx => ?_; clear hK K; try clear kk
 obtain ⟨e0, f0, hh⟩ := zf hh
 obtain ⟨hlen0, f0⟩ := qo f0
 refine qD (kE (fun s => .inr () = e0 ∧ ∃ (JI : Int) (Zv : Bool) (nx : Nat), s = ⟨[(0, .list 1 (l_1.map PV.str)), (5, .list 1 (l_1.map PV.str)), (6, .int .i64 (l_1.length : Int)), (7, .int .i64 JI), (8, .bool Zv)], [], nx⟩))
  (fun i s => False)
  (fun s => ∃ ahp, .inl ahp = e0 ∧ zW Tryd.prog [.tmp 2] (.bool ahp) [] .ret s) ?_ ?_ ?_ ?_
 ·refine zC ?_
  refine qg fun I hI => ?_
  have key : ∀ (suf pre : List Str) (v_5 : Int), l_1 = pre ++ suf → v_5 = (pre.length : Int) → vM l_1 suf v_5 = some e0 → ∀ (nx : Nat), I ⟨[(0, .list 1 (l_1.map PV.str)), (5, .list 1 (l_1.map PV.str)), (6, .int .i64 (l_1.length : Int)), (7, .int .i64 v_5)], [], nx⟩ := by
   intro suf
   induction suf with
   | nil =>
    intro pre v_5 hsplit hidx hh nx
    rw [vM] at hh
    refine hI _ ?_
    have h15 := walk_nil hsplit hidx
    refine zb fun K kk hK => ?_
    simp only [go_sem]
    refine hK _ _ fun nx => ?_; clear hK K; try clear kk
    refine zm ?_
    refine zi (by first | exact congrArg PV.bool h15 | rfl) ?_
    refine zU ?_; refine nmx ?_
    refine wJ ?_
    refine zG ?_
    refine ⟨(Option.some.inj hh), ?_⟩
    first | exact ⟨_, _, _, rfl⟩ | (simp only [pvE, lsE, zo]; exact ⟨_, _, _, rfl⟩) | (simp only [pvE, lsE, zo, h15]; exact ⟨_, _, _, rfl⟩)
   | cons y_9 suf ih =>
    intro pre v_5 hsplit hidx hh nx
    rw [vM] at hh
    refine hI _ ?_
    obtain ⟨hl0a, hl0b, hl0d, hl0w, h15⟩ := qZ (f := PV.str) hsplit hidx hlen0
    refine zb fun K kk hK => ?_
    simp only [go_sem]
    refine hK _ _ fun nx => ?_; clear hK K; try clear kk
    refine zm ?_
    refine zn (by first | exact congrArg PV.bool h15 | rfl) ?_
    refine zy ?_; refine nmx ?_
    refine zm ?_
    refine zC ?_
    refine zb fun K kk hK => ?_
    simp only [go_sem, hl0a, hl0b, hl0d, hl0w]
    refine hK _ _ fun nx => ?_; clear hK K; try clear kk
    obtain ⟨ak5, h16, hh⟩ := zf hh
    by_cases h17 : (!ak5) = true
    ·rw [if_pos h17] at hh
     refine zb fun K kk hK => ?_
     simp only [go_sem, h17, hl0a, hl0b, hl0d, hl0w]
     (repeat refine sd ?_)
     refine zg (wC _ _ h16) (by (try simp only [go_sem, h17, hl0a, hl0b, hl0d, hl0w]) <;> exact wkl) (by rfl) (by rfl) ?_
     simp only [go_sem, h17, hl0a, hl0b, hl0d, hl0w]
     (repeat refine sd ?_)
     refine hK _ _ fun nx => ?_; clear hK K; try clear kk
     refine zn rfl ?_
     refine zb fun K kk hK => ?_
     simp only [go_sem, hl0a, hl0b, hl0d, hl0w]
     refine hK _ _ fun nx => ?_; clear hK K; try clear kk
     refine zk ?_; refine nmx ?_
     refine Qn ⟨_, (Option.some.inj hh), ?_⟩
     exact zz
    ·rw [if_neg h17] at hh
     replace h17 := Bool.eq_false_iff.mpr h17
     by_cases h18 : (decide (v_5 > (0 : Int))) = true
     ·rw [if_pos h18] at hh
      obtain ⟨adX, h19, hh⟩ := zf hh
      obtain ⟨h19a, h19b, h19c⟩ := rd_some h19
      have h19d := wR (f := PV.str) h19c
      have h19f := qM (f := PV.str) h19c
      try simp only [Int.toNat_natCast, Int.reduceToNat] at h19d h19f
      refine zb fun K kk hK => ?_
      simp only [go_sem, h17, h18, of_decide_eq_true h18, h19a, h19b, h19d, h19f.1, h19f.2, hl0a, hl0b, hl0d, hl0w]
      (repeat refine sd ?_)
      refine zg (wC _ _ h16) (by (try simp only [go_sem, h17, h18, of_decide_eq_true h18, h19a, h19b, h19d, h19f.1, h19f.2, hl0a, hl0b, hl0d, hl0w]) <;> exact wkl) (by rfl) (by rfl) ?_
      simp only [go_sem, h17, h18, of_decide_eq_true h18, h19a, h19b, h19d, h19f.1, h19f.2, hl0a, hl0b, hl0d, hl0w]
      (repeat refine sd ?_)
      refine hK _ _ fun nx => ?_; clear hK K; try clear kk
      by_cases h20 : ((Op.bytesLess y_9 adX || y_9 == adX)) = true
      ·rw [if_pos h20] at hh
       refine zn (by first | exact congrArg PV.bool h20 | rfl) ?_
       refine zb fun K kk hK => ?_
       simp only [go_sem, hl0a, hl0b, hl0d, hl0w]
       refine hK _ _ fun nx => ?_; clear hK K; try clear kk
       refine zk ?_; refine nmx ?_
       refine Qn ⟨_, (Option.some.inj hh), ?_⟩
       exact zz
      ·rw [if_neg h20] at hh
       replace h20 := Bool.eq_false_iff.mpr h20
       refine zi (by first | exact congrArg PV.bool h20 | rfl) ?_
       refine zy ?_; refine nmx ?_
       refine zq fun K kk hK => ?_
       simp only [go_sem, hl0a, hl0b, hl0d, hl0w]
       refine hK _ _ fun nx => ?_; clear hK K; try clear kk
       refine nmx ?_
       have ih' := ih (pre ++ [y_9]) (v_5 + 1) (by rw [hsplit]; simp) (by simp [hidx]) hh nx
       refine zG ?_
       first | exact ih' | (simp only [pvE, lsE, zo] at ih' ⊢; exact ih') | (simp only [pvE, lsE, zo, h15, h17, h18, h20] at ih' ⊢; exact ih')
     ·rw [if_neg h18] at hh
      replace h18 := Bool.eq_false_iff.mpr h18
      refine zb fun K kk hK => ?_
      simp only [go_sem, h17, h18, of_decide_eq_false h18, hl0a, hl0b, hl0d, hl0w]
      (repeat refine sd ?_)
      refine zg (wC _ _ h16) (by (try simp only [go_sem, h17, h18, of_decide_eq_false h18, hl0a, hl0b, hl0d, hl0w]) <;> exact wkl) (by rfl) (by rfl) ?_
      simp only [go_sem, h17, h18, of_decide_eq_false h18, hl0a, hl0b, hl0d, hl0w]
      (repeat refine sd ?_)
      refine hK _ _ fun nx => ?_; clear hK K; try clear kk
      refine zi rfl ?_
      refine zy ?_; refine nmx ?_
      refine zq fun K kk hK => ?_
      simp only [go_sem, hl0a, hl0b, hl0d, hl0w]
      refine hK _ _ fun nx => ?_; clear hK K; try clear kk
      refine nmx ?_
      have ih' := ih (pre ++ [y_9]) (v_5 + 1) (by rw [hsplit]; simp) (by simp [hidx]) hh nx
      refine zG ?_
      first | exact ih' | (simp only [pvE, lsE, zo] at ih' ⊢; exact ih') | (simp only [pvE, lsE, zo, h15, h17, h18] at ih' ⊢; exact ih')
  exact key l_1 [] _ rfl rfl f0 _
 ·rintro s ⟨t, hless, rfl, JI, Zv, nx, rfl⟩
  try dsimp only at hh
  refine nmy ?_
  first | (refine wB hless ?_; try refine kC ?_) | refine qK hless ?_ | refine qI hless ?_
  refine zb fun K kk hK => ?_
  simp only [go_sem]
  refine hK _ _ fun nx => ?_; clear hK K; try clear kk
  refine zk ?_; refine nmx ?_
  obtain hR := Option.some.inj hh
  subst hR
  exact zz
 ·intro i s h; exact h.elim
 ·rintro s ⟨ahp, rfl, hb⟩
  try dsimp only at hh
  obtain hR := Option.some.inj hh
  subst hR
  refine nmx ?_
  exact hb
theorem J3 (s_1 : Str) (R : Bool) (hh : WV s_1 = some R) : PC Tryd.prog 81 [.str s_1] (.bool R) := by
 rw [WV] at hh
 refine ae2 rfl ?_
 refine zb fun K kk hK => ?_
 simp only [go_sem]
 refine hK _ _ fun nx => ?_; clear hK K; try clear kk
 by_cases h1 : (decide ((s_1.length : Int) ≤ (40 : Int))) = true
 ·rw [if_pos h1] at hh
  obtain ⟨anf, h2, hh⟩ := zf hh
  refine zb fun K kk hK => ?_
  simp only [go_sem, h1, of_decide_eq_true h1]
  (repeat refine sd ?_)
  refine zg (ve _ _ h2) (by (try simp only [go_sem, h1, of_decide_eq_true h1]) <;> exact wkl) (by rfl) (by rfl) ?_
  simp only [go_sem, h1, of_decide_eq_true h1]
  (repeat refine sd ?_)
  refine hK _ _ fun nx => ?_; clear hK K; try clear kk
  refine zk ?_; refine nmx ?_
  obtain hR := Option.some.inj hh
  subst hR
  exact zz
 ·rw [if_neg h1] at hh
  replace h1 := Bool.eq_false_iff.mpr h1
  refine zb fun K kk hK => ?_
  simp only [go_sem, h1, of_decide_eq_false h1]
  (repeat refine sd ?_)
  refine hK _ _ fun nx => ?_; clear hK K; try clear kk
  refine zk ?_; refine nmx ?_
  obtain hR := Option.some.inj hh
  subst hR
  exact zz
end Go.Proofs.YtclohbgnaopjfaaDoor
