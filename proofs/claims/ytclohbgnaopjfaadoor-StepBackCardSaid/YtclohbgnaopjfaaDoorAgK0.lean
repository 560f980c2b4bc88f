/- Texts of the proof of stepBackCard -/
import Derived.Test.YtclohbgnaopjfaaDoorAgC
import Derived.Test.YtclohbgnaopjfaaDoorAgF
import Derived.Test.YtclohbgnaopjfaaDoorAgL
namespace Go.Proofs.YtclohbgnaopjfaaDoor
set_option linter.unusedSimpArgs false
set_option linter.unusedVariables false
open Go
set_option maxRecDepth 100000
theorem wY (n_1 : za) (R : Bool) (hh : vQ n_1 = some R) : PC Tryd.prog 58 [.agg [.str n_1.Kind, .str n_1.Text, .list 1 (n_1.Marks.map PV.str), .list 2 (n_1.zo.map zg.pv), .list 5 (n_1.Kids.map za.pv)]] (.bool R) := by
 rw [vQ] at hh
 refine acN rfl ?_
 refine zb fun K kk hK => ?_
 simp only [go_sem]
 refine hK _ _ fun nx => ?_; clear hK K; try clear kk
 refine zb fun K kk hK => ?_
 simp only [go_sem]
 refine hK _ _ fun nx => ?_; clear hK K; try clear kk
 refine zi ?_; refine nmx ?_
 obtain hR := Option.some.inj hh
 subst hR
 exact zy
theorem Qj (s_1 : Str) (R : Int) (hh : wo s_1 = some R) : PC Tryd.prog 63 [.str s_1] (.int .i64 R) := by
 rw [wo] at hh
 refine Ze rfl ?_
 refine zb fun K kk hK => ?_
 simp only [go_sem]
 refine hK _ _ fun nx => ?_; clear hK K; try clear kk
 refine zm ?_
 refine zb fun K kk hK => ?_
 simp only [go_sem]
 refine hK _ _ fun nx => ?_; clear hK K; try clear kk
 obtain ⟨e0, f0, hh⟩ := zf hh
 refine qz (kv (fun s => ∃ n_4, n_4 = e0 ∧ ∃ (v_5 : Nat) (nx : Nat) (g4 : Nat), s = ⟨[(2, .int .i64 n_4), (4, .box 4 g4 0), (6, .bool false)], [(4, g4, .iter s_1 v_5)], nx⟩))
  (fun i s => False)
  (fun s => False) ?_ ?_ ?_ ?_
 ·refine zC ?_
  refine qh fun I hI => ?_
  obtain ⟨k, f0⟩ := xZ f0
  have key : ∀ (k : Nat) (n_2 : Int) (v_3 : Nat), zM s_1 k n_2 v_3 = some e0 → ∀ (nx : Nat) (g4 : Nat), I ⟨[(2, .int .i64 n_2), (4, .box 4 g4 0)], [(4, g4, .iter s_1 v_3)], nx⟩ := by
   intro k
   induction k with
   | zero => intro n_2 v_3 hh; rw [zM] at hh; cases hh
   | succ k ih =>
    intro n_2 v_3 hh nx g4
    rw [zM] at hh
    refine hI _ ?_
    by_cases h2 : (decide (v_3 < s_1.length)) = true
    ·rw [if_pos h2] at hh
     refine zb fun K kk hK => ?_
     simp only [go_sem, h2, of_decide_eq_true h2]
     (repeat refine sd ?_)
     refine hK _ _ fun nx => ?_; clear hK K; try clear kk
     refine zm ?_
     refine zn rfl ?_
     refine zx ?_; refine nmx ?_
     refine zC ?_
     refine zu fun K kk hK => ?_
     simp only [go_sem]
     refine hK _ _ fun nx => ?_; clear hK K; try clear kk
     refine nmx ?_
     have ih' := ih _ _ hh nx
     refine zJ ?_
     first | exact ih' _ | (simp only [pvE, lsE, zq] at ih' ⊢; exact ih' _) | (simp only [pvE, lsE, zq, h2] at ih' ⊢; exact ih' _)
    ·rw [if_neg h2] at hh
     replace h2 := Bool.eq_false_iff.mpr h2
     refine zb fun K kk hK => ?_
     simp only [go_sem, h2, of_decide_eq_false h2]
     (repeat refine sd ?_)
     refine hK _ _ fun nx => ?_; clear hK K; try clear kk
     refine zm ?_
     refine zh rfl ?_
     refine zZ ?_; refine nmx ?_
     refine kN ?_
     refine zJ ?_
     refine ⟨_, (Option.some.inj hh), ?_⟩
     first | exact ⟨_, _, _, rfl⟩ | (simp only [pvE, lsE, zq]; exact ⟨_, _, _, rfl⟩) | (simp only [pvE, lsE, zq, h2]; exact ⟨_, _, _, rfl⟩)
  exact key _ _ _ f0 _ _
 ·rintro s ⟨t, hless, n_4, rfl, v_5, nx, g4, rfl⟩
  try dsimp only at hh
  refine nmy ?_
  first | (refine wm hless ?_; try refine kz ?_) | refine qH hless ?_ | refine qG hless ?_
  refine zb fun K kk hK => ?_
  simp only [go_sem]
  refine hK _ _ fun nx => ?_; clear hK K; try clear kk
  refine zi ?_; refine nmx ?_
  obtain hR := Option.some.inj hh
  subst hR
  exact zy
 ·intro i s h; exact h.elim
 ·intro s h; exact h.elim
theorem YA : ∀ kr : Nat, (∀ (l_1 : (List za)) (R : Int), xR kr l_1 = some R → PC Tryd.prog 27 [.list 5 (l_1.map za.pv)] (.int .i64 R)) ∧
  (∀ (n_1 : za) (R : Int), jD kr n_1 = some R → PC Tryd.prog 34 [.agg [.str n_1.Kind, .str n_1.Text, .list 1 (n_1.Marks.map PV.str), .list 2 (n_1.zo.map zg.pv), .list 5 (n_1.Kids.map za.pv)]] (.int .i64 R)) := by
 intro kr
 induction kr with
 | zero => exact ⟨(by intro l_1 R hh; rw [xR] at hh; cases hh), (by intro n_1 R hh; rw [jD] at hh; cases hh)⟩
 | succ kr ih =>
  obtain ⟨ih_node_Total, ih_node_Size⟩ := ih
  refine ⟨?_, ?_⟩
  ·intro l_1 R hh
   rw [xR] at hh
   refine aef rfl ?_
   refine zb fun K kk hK => ?_
   simp only [go_sem]
   refine hK _ _ fun nx => ?_; clear hK K; try clear kk
   refine zb fun K kk hK => ?_
   simp only [go_sem]
   refine hK _ _ fun nx => ?_; clear hK K; try clear kk
   refine zm ?_
   refine zb fun K kk hK => ?_
   simp only [go_sem]
   refine hK _ _ fun nx => ?_; clear hK K; try clear kk
   obtain ⟨e0, f0, hh⟩ := zf hh
   obtain ⟨hlen0, f0⟩ := z8 f0
   refine qz (kv (fun s => ∃ acn, acn = e0 ∧ ∃ (WC : Int) (Kq : Bool) (nx : Nat), s = ⟨[(3, .int .i64 acn), (6, .list 5 (l_1.map za.pv)), (7, .int .i64 (l_1.length : Int)), (8, .int .i64 WC), (9, .bool Kq)], [], nx⟩))
    (fun i s => False)
    (fun s => False) ?_ ?_ ?_ ?_
   ·refine zC ?_
    refine qh fun I hI => ?_
    have key : ∀ (suf pre : List za) (v_5 : Int) (YP : Int), l_1 = pre ++ suf → v_5 = (pre.length : Int) → jC (jD kr) suf v_5 YP = some e0 → ∀ (nx : Nat), I ⟨[(3, .int .i64 YP), (6, .list 5 (l_1.map za.pv)), (7, .int .i64 (l_1.length : Int)), (8, .int .i64 v_5)], [], nx⟩ := by
     intro suf
     induction suf with
     | nil =>
      intro pre v_5 YP hsplit hidx hh nx
      rw [jC] at hh
      refine hI _ ?_
      have h7 := walk_nil hsplit hidx
      refine zb fun K kk hK => ?_
      simp only [go_sem]
      refine hK _ _ fun nx => ?_; clear hK K; try clear kk
      refine zm ?_
      refine zh (by first | exact congrArg PV.bool h7 | rfl) ?_
      refine zZ ?_; refine nmx ?_
      refine kN ?_
      refine zJ ?_
      refine ⟨_, (Option.some.inj hh), ?_⟩
      first | exact ⟨_, _, _, rfl⟩ | (simp only [pvE, lsE, zq]; exact ⟨_, _, _, rfl⟩) | (simp only [pvE, lsE, zq, h7]; exact ⟨_, _, _, rfl⟩)
     | cons y_8 suf ih =>
      intro pre v_5 YP hsplit hidx hh nx
      rw [jC] at hh
      refine hI _ ?_
      obtain ⟨hl0a, hl0b, hl0d, hl0w, h7⟩ := qI (f := za.pv) hsplit hidx hlen0
      refine zb fun K kk hK => ?_
      simp only [go_sem]
      refine hK _ _ fun nx => ?_; clear hK K; try clear kk
      refine zm ?_
      refine zn (by first | exact congrArg PV.bool h7 | rfl) ?_
      refine zx ?_; refine nmx ?_
      refine zm ?_
      refine zC ?_
      refine zb fun K kk hK => ?_
      simp only [go_sem, hl0a, hl0b, hl0d, hl0w]
      refine hK _ _ fun nx => ?_; clear hK K; try clear kk
      obtain ⟨ar0, h8, hh⟩ := zf hh
      refine zu fun K kk hK => ?_
      simp only [go_sem, hl0a, hl0b, hl0d, hl0w]
      refine ze (ih_node_Size _ _ h8) (by (try simp only [go_sem, hl0a, hl0b, hl0d, hl0w]) <;> exact wkl) (by rfl) (by rfl) ?_
      simp only [go_sem, hl0a, hl0b, hl0d, hl0w]
      refine hK _ _ fun nx => ?_; clear hK K; try clear kk
      refine nmx ?_
      refine zu fun K kk hK => ?_
      simp only [go_sem, hl0a, hl0b, hl0d, hl0w]
      refine hK _ _ fun nx => ?_; clear hK K; try clear kk
      refine nmx ?_
      have ih' := ih (pre ++ [y_8]) (v_5 + 1) _ (by rw [hsplit]; simp) (by simp [hidx]) hh nx
      refine zJ ?_
      first | exact ih' | (simp only [pvE, lsE, zq] at ih' ⊢; exact ih') | (simp only [pvE, lsE, zq, h7] at ih' ⊢; exact ih')
    exact key l_1 [] _ _ rfl rfl f0 _
   ·rintro s ⟨t, hless, acn, rfl, WC, Kq, nx, rfl⟩
    try dsimp only at hh
    refine nmy ?_
    first | (refine wm hless ?_; try refine kz ?_) | refine qH hless ?_ | refine qG hless ?_
    refine zb fun K kk hK => ?_
    simp only [go_sem]
    refine hK _ _ fun nx => ?_; clear hK K; try clear kk
    refine zi ?_; refine nmx ?_
    obtain hR := Option.some.inj hh
    subst hR
    exact zy
   ·intro i s h; exact h.elim
   ·intro s h; exact h.elim
  ·intro n_1 R hh
   rw [jD] at hh
   refine af4 rfl ?_
   refine zb fun K kk hK => ?_
   simp only [go_sem]
   refine hK _ _ fun nx => ?_; clear hK K; try clear kk
   refine zm ?_
   obtain ⟨yK, h1, hh⟩ := zf hh
   refine zb fun K kk hK => ?_
   simp only [go_sem]
   refine ze (wY _ _ h1) (by (try simp only [go_sem]) <;> exact wkl) (by rfl) (by rfl) ?_
   simp only [go_sem]
   refine hK _ _ fun nx => ?_; clear hK K; try clear kk
   by_cases h2 : (yK) = true
   ·rw [if_pos h2] at hh
    refine zn (by first | exact congrArg PV.bool h2 | rfl) ?_
    obtain ⟨amN, h3, hh⟩ := zf hh
    refine zb fun K kk hK => ?_
    simp only [go_sem]
    refine ze (Qj _ _ h3) (by (try simp only [go_sem]) <;> exact wkl) (by rfl) (by rfl) ?_
    simp only [go_sem]
    refine hK _ _ fun nx => ?_; clear hK K; try clear kk
    refine zi ?_; refine nmx ?_
    obtain hR := Option.some.inj hh
    subst hR
    exact zy
   ·rw [if_neg h2] at hh
    replace h2 := Bool.eq_false_iff.mpr h2
    refine zh (by first | exact congrArg PV.bool h2 | rfl) ?_
    refine zx ?_; refine nmx ?_
    obtain ⟨aoR, h4, hh⟩ := zf hh
    refine zb fun K kk hK => ?_
    simp only [go_sem]
    refine ze (ih_node_Total _ _ h4) (by (try simp only [go_sem]) <;> exact wkl) (by rfl) (by rfl) ?_
    simp only [go_sem]
    refine hK _ _ fun nx => ?_; clear hK K; try clear kk
    refine zi ?_; refine nmx ?_
    obtain hR := Option.some.inj hh
    subst hR
    exact zy
theorem xw (l_1 : (List za)) (R : Int) (hh : jI l_1 = some R) : PC Tryd.prog 27 [.list 5 (l_1.map za.pv)] (.int .i64 R) := by
 rw [jI] at hh
 obtain ⟨kr, hh⟩ := xZ hh
 exact (YA kr).1 _ _ hh
theorem ky (n_1 : za) (R : Int) (hh : xE n_1 = some R) : PC Tryd.prog 34 [.agg [.str n_1.Kind, .str n_1.Text, .list 1 (n_1.Marks.map PV.str), .list 2 (n_1.zo.map zg.pv), .list 5 (n_1.Kids.map za.pv)]] (.int .i64 R) := by
 rw [xE] at hh
 obtain ⟨kr, hh⟩ := xZ hh
 exact (YA kr).2 _ _ hh
theorem kW (s : Str) (R : Bool) (hh : wP s = some R) : PC Tryd.prog 103 [.str s] (.bool R) := by
 rw [wP] at hh
 exact af5 ⟨_, Tryd.func103, by kernel_rfl, by kernel_rfl⟩ (fun s w h1 h2 => Any.utf8_ValidString Tryd.ao1 s w h1 (avA h2)) s R hh
theorem jy (vB : (List Str)) (vU : (List Str)) (R : Bool) (hh : slices_Equal_string vB vU = some R) : PC Tryd.prog 42 [.list 1 (vB.map PV.str), .list 1 (vU.map PV.str)] (.bool R) := by
 rw [slices_Equal_string] at hh
 refine VW rfl ?_
 refine zb fun K kk hK => ?_
 simp only [go_sem]
 refine hK _ _ fun nx => ?_; clear hK K; try clear kk
 refine zm ?_
 refine zb fun K kk hK => ?_
 simp only [go_sem]
 refine hK _ _ fun nx => ?_; clear hK K; try clear kk
 by_cases h1 : ((vB.length : Int) != (vU.length : Int)) = true
 ·rw [if_pos h1] at hh
  refine zn (by first | exact congrArg PV.bool h1 | rfl) ?_
  refine zb fun K kk hK => ?_
  simp only [go_sem]
  refine hK _ _ fun nx => ?_; clear hK K; try clear kk
  refine zi ?_; refine nmx ?_
  obtain hR := Option.some.inj hh
  subst hR
  exact zy
 ·rw [if_neg h1] at hh
  replace h1 := Bool.eq_false_iff.mpr h1
  refine zh (by first | exact congrArg PV.bool h1 | rfl) ?_
  refine zx ?_; refine nmx ?_
  refine zm ?_
  refine zb fun K kk hK => ?_
  simp only [go_sem]
  refine hK _ _ fun nx => ?_; clear hK K; try clear kk
  obtain ⟨e0, f0, hh⟩ := zf hh
  obtain ⟨hlen0, f0⟩ := z8 f0
  refine qz (kv (fun s => .inr () = e0 ∧ ∃ (WC : Int) (Kq : Bool) (nx : Nat), s = ⟨[(0, .list 1 (vB.map PV.str)), (1, .list 1 (vU.map PV.str)), (12, .int .i64 (vB.length : Int)), (13, .int .i64 WC), (14, .bool Kq)], [], nx⟩))
   (fun i s => False)
   (fun s => ∃ wZ, .inl wZ = e0 ∧ zS Tryd.prog [.tmp 4] (.bool wZ) [] .ret s) ?_ ?_ ?_ ?_
  ·refine zC ?_
   refine qh fun I hI => ?_
   have key : ∀ (suf pre : List Str) (v_5 : Int), vB = pre ++ suf → v_5 = (pre.length : Int) → qf vU suf v_5 = some e0 → ∀ (nx : Nat), I ⟨[(0, .list 1 (vB.map PV.str)), (1, .list 1 (vU.map PV.str)), (12, .int .i64 (vB.length : Int)), (13, .int .i64 v_5)], [], nx⟩ := by
    intro suf
    induction suf with
    | nil =>
     intro pre v_5 hsplit hidx hh nx
     rw [qf] at hh
     refine hI _ ?_
     have h10 := walk_nil hsplit hidx
     refine zb fun K kk hK => ?_
     simp only [go_sem]
     refine hK _ _ fun nx => ?_; clear hK K; try clear kk
     refine zm ?_
     refine zh (by first | exact congrArg PV.bool h10 | rfl) ?_
     refine zZ ?_; refine nmx ?_
     refine kN ?_
     refine zJ ?_
     refine ⟨(Option.some.inj hh), ?_⟩
     first | exact ⟨_, _, _, rfl⟩ | (simp only [pvE, lsE, zq]; exact ⟨_, _, _, rfl⟩) | (simp only [pvE, lsE, zq, h1, h10]; exact ⟨_, _, _, rfl⟩)
    | cons y_8 suf ih =>
     intro pre v_5 hsplit hidx hh nx
     rw [qf] at hh
     refine hI _ ?_
     obtain ⟨hl0a, hl0b, hl0d, hl0w, h10⟩ := qI (f := PV.str) hsplit hidx hlen0
     refine zb fun K kk hK => ?_
     simp only [go_sem]
     refine hK _ _ fun nx => ?_; clear hK K; try clear kk
     refine zm ?_
     refine zn (by first | exact congrArg PV.bool h10 | rfl) ?_
     refine zx ?_; refine nmx ?_
     refine zm ?_
     refine zC ?_
     refine zb fun K kk hK => ?_
     simp only [go_sem, hl0a, hl0b, hl0d, hl0w]
     refine hK _ _ fun nx => ?_; clear hK K; try clear kk
     obtain ⟨x_9, h11, hh⟩ := zf hh
     obtain ⟨h11a, h11b, h11c⟩ := rd_some h11
     have h11d := vz (f := PV.str) h11c
     have h11f := wX (f := PV.str) h11c
     try simp only [Int.toNat_natCast, Int.reduceToNat] at h11d h11f
     refine zb fun K kk hK => ?_
     simp only [go_sem, h11a, h11b, h11d, h11f.1, h11f.2, hl0a, hl0b, hl0d, hl0w]
     (repeat refine sd ?_)
     refine hK _ _ fun nx => ?_; clear hK K; try clear kk
     by_cases h12 : (!(y_8 == x_9)) = true
     ·rw [if_pos h12] at hh
      refine zn (by first | exact congrArg PV.bool h12 | rfl) ?_
      refine zb fun K kk hK => ?_
      simp only [go_sem, hl0a, hl0b, hl0d, hl0w]
      refine hK _ _ fun nx => ?_; clear hK K; try clear kk
      refine zi ?_; refine nmx ?_
      refine QD ⟨_, (Option.some.inj hh), ?_⟩
      exact zy
     ·rw [if_neg h12] at hh
      replace h12 := Bool.eq_false_iff.mpr h12
      refine zh (by first | exact congrArg PV.bool h12 | rfl) ?_
      refine zx ?_; refine nmx ?_
      refine zu fun K kk hK => ?_
      simp only [go_sem, hl0a, hl0b, hl0d, hl0w]
      refine hK _ _ fun nx => ?_; clear hK K; try clear kk
      refine nmx ?_
      have ih' := ih (pre ++ [y_8]) (v_5 + 1) (by rw [hsplit]; simp) (by simp [hidx]) hh nx
      refine zJ ?_
      first | exact ih' | (simp only [pvE, lsE, zq] at ih' ⊢; exact ih') | (simp only [pvE, lsE, zq, h1, h10, h12] at ih' ⊢; exact ih')
   exact key vB [] _ rfl rfl f0 _
  ·rintro s ⟨t, hless, rfl, WC, Kq, nx, rfl⟩
   try dsimp only at hh
   refine nmy ?_
   first | (refine wm hless ?_; try refine kz ?_) | refine qH hless ?_ | refine qG hless ?_
   refine zb fun K kk hK => ?_
   simp only [go_sem]
   refine hK _ _ fun nx => ?_; clear hK K; try clear kk
   refine zi ?_; refine nmx ?_
   obtain hR := Option.some.inj hh
   subst hR
   exact zy
  ·intro i s h; exact h.elim
  ·rintro s ⟨wZ, rfl, hb⟩
   try dsimp only at hh
   obtain hR := Option.some.inj hh
   subst hR
   refine nmx ?_
   exact hb
theorem JD (a_1 : za) (b_2 : za) (R : Bool) (hh : ZJ a_1 b_2 = some R) : PC Tryd.prog 104 [.agg [.str a_1.Kind, .str a_1.Text, .list 1 (a_1.Marks.map PV.str), .list 2 (a_1.zo.map zg.pv), .list 5 (a_1.Kids.map za.pv)], .agg [.str b_2.Kind, .str b_2.Text, .list 1 (b_2.Marks.map PV.str), .list 2 (b_2.zo.map zg.pv), .list 5 (b_2.Kids.map za.pv)]] (.bool R) := by
 rw [ZJ] at hh
 refine ae1 rfl ?_
 refine zb fun K kk hK => ?_
 simp only [go_sem]
 refine hK _ _ fun nx => ?_; clear hK K; try clear kk
 obtain ⟨Vw, h1, hh⟩ := zf hh
 by_cases h2 : (Vw) = true
 ·rw [if_pos h2] at hh
  obtain ⟨ahq, h3, hh⟩ := zf hh
  by_cases h4 : (ahq) = true
  ·rw [if_pos h4] at hh
   obtain ⟨al2, h5, hh⟩ := zf hh
   refine zb fun K kk hK => ?_
   simp only [go_sem, h2, h4]
   (repeat refine sd ?_)
   refine ze (wY _ _ h1) (by (try simp only [go_sem, h2, h4]) <;> exact wkl) (by rfl) (by rfl) ?_
   simp only [go_sem, h2, h4]
   (repeat refine sd ?_)
   refine ze (wY _ _ h3) (by (try simp only [go_sem, h2, h4]) <;> exact wkl) (by rfl) (by rfl) ?_
   simp only [go_sem, h2, h4]
   (repeat refine sd ?_)
   refine ze (jy _ _ _ h5) (by (try simp only [go_sem, h2, h4]) <;> exact wkl) (by rfl) (by rfl) ?_
   simp only [go_sem, h2, h4]
   (repeat refine sd ?_)
   refine hK _ _ fun nx => ?_; clear hK K; try clear kk
   refine zi ?_; refine nmx ?_
   obtain hR := Option.some.inj hh
   subst hR
   exact zy
  ·rw [if_neg h4] at hh
   replace h4 := Bool.eq_false_iff.mpr h4
   refine zb fun K kk hK => ?_
   simp only [go_sem, h2, h4]
   (repeat refine sd ?_)
   refine ze (wY _ _ h1) (by (try simp only [go_sem, h2, h4]) <;> exact wkl) (by rfl) (by rfl) ?_
   simp only [go_sem, h2, h4]
   (repeat refine sd ?_)
   refine ze (wY _ _ h3) (by (try simp only [go_sem, h2, h4]) <;> exact wkl) (by rfl) (by rfl) ?_
   simp only [go_sem, h2, h4]
   (repeat refine sd ?_)
   refine hK _ _ fun nx => ?_; clear hK K; try clear kk
   refine zi ?_; refine nmx ?_
   obtain hR := Option.some.inj hh
   subst hR
   exact zy
 ·rw [if_neg h2] at hh
  replace h2 := Bool.eq_false_iff.mpr h2
  refine zb fun K kk hK => ?_
  simp only [go_sem, h2]
  (repeat refine sd ?_)
  refine ze (wY _ _ h1) (by (try simp only [go_sem, h2]) <;> exact wkl) (by rfl) (by rfl) ?_
  simp only [go_sem, h2]
  (repeat refine sd ?_)
  refine hK _ _ fun nx => ?_; clear hK K; try clear kk
  refine zi ?_; refine nmx ?_
  obtain hR := Option.some.inj hh
  subst hR
  exact zy
theorem agf (s : Str) (cutset : Str) (R : Str) (hh : KX s cutset = some R) : PC Tryd.prog 102 [.str s, .str cutset] (.str R) := by
 rw [KX] at hh
 exact ar8 (tr := Lib.trimS) ⟨_, Tryd.func102, by kernel_rfl, by kernel_rfl⟩ (fun s c w h1 h2 h3 => Any.strings_Trim_laid Tryd.auR (by kernel_rfl) s c w h1 h2 h3) s cutset R hh
theorem qZ (s_1 : Str) (R : Bool) (hh : yY s_1 = some R) : PC Tryd.prog 80 [.str s_1] (.bool R) := by
 rw [yY] at hh
 refine agc rfl ?_
 refine zb fun K kk hK => ?_
 simp only [go_sem]
 refine hK _ _ fun nx => ?_; clear hK K; try clear kk
 obtain ⟨aoK, h1, hh⟩ := zf hh
 refine zb fun K kk hK => ?_
 simp only [go_sem]
 refine ze (agf _ _ _ h1) (by (try simp only [go_sem]) <;> exact wkl) (by rfl) (by rfl) ?_
 simp only [go_sem]
 refine hK _ _ fun nx => ?_; clear hK K; try clear kk
 by_cases h2 : (aoK == ([] : Str)) = true
 ·rw [if_pos h2] at hh
  by_cases h3 : (!(s_1 == ([] : Str))) = true
  ·rw [if_pos h3] at hh
   by_cases h4 : (decide ((s_1.length : Int) ≤ (8 : Int))) = true
   ·rw [if_pos h4] at hh
    refine zb fun K kk hK => ?_
    simp only [go_sem, h2, h3, h4, of_decide_eq_true h4]
    (repeat refine sd ?_)
    refine hK _ _ fun nx => ?_; clear hK K; try clear kk
    refine zi ?_; refine nmx ?_
    obtain hR := Option.some.inj hh
    subst hR
    exact zy
   ·rw [if_neg h4] at hh
    replace h4 := Bool.eq_false_iff.mpr h4
    refine zb fun K kk hK => ?_
    simp only [go_sem, h2, h3, h4, of_decide_eq_false h4]
    (repeat refine sd ?_)
    refine hK _ _ fun nx => ?_; clear hK K; try clear kk
    refine zi ?_; refine nmx ?_
    obtain hR := Option.some.inj hh
    subst hR
    exact zy
  ·rw [if_neg h3] at hh
   replace h3 := Bool.eq_false_iff.mpr h3
   refine zb fun K kk hK => ?_
   simp only [go_sem, h2, h3]
   (repeat refine sd ?_)
   refine hK _ _ fun nx => ?_; clear hK K; try clear kk
   refine zi ?_; refine nmx ?_
   obtain hR := Option.some.inj hh
   subst hR
   exact zy
 ·rw [if_neg h2] at hh
  replace h2 := Bool.eq_false_iff.mpr h2
  refine zb fun K kk hK => ?_
  simp only [go_sem, h2]
  (repeat refine sd ?_)
  refine hK _ _ fun nx => ?_; clear hK K; try clear kk
  refine zi ?_; refine nmx ?_
  obtain hR := Option.some.inj hh
  subst hR
  exact zy
theorem XR (l_1 : (List Str)) (R : Bool) (hh : Vj l_1 = some R) : PC Tryd.prog 111 [.list 1 (l_1.map PV.str)] (.bool R) := by
 rw [Vj] at hh
 refine af7 rfl ?_
 refine zb fun K kk hK => ?_
 simp only [go_sem]
 refine hK _ _ fun nx => ?_; clear hK K; try clear kk
 refine zm ?_
 refine zb fun K kk hK => ?_
 simp only [go_sem]
 refine hK _ _ fun nx => ?_; clear hK K; try clear kk
 obtain ⟨e0, f0, hh⟩ := zf hh
 obtain ⟨hlen0, f0⟩ := z8 f0
 refine qz (kv (fun s => .inr () = e0 ∧ ∃ (Yh : Int) (Qk : Bool) (nx : Nat), s = ⟨[(0, .list 1 (l_1.map PV.str)), (5, .list 1 (l_1.map PV.str)), (6, .int .i64 (l_1.length : Int)), (7, .int .i64 Yh), (8, .bool Qk)], [], nx⟩))
  (fun i s => False)
  (fun s => ∃ ah7, .inl ah7 = e0 ∧ zS Tryd.prog [.tmp 2] (.bool ah7) [] .ret s) ?_ ?_ ?_ ?_
 ·refine zC ?_
  refine qh fun I hI => ?_
  have key : ∀ (suf pre : List Str) (v_5 : Int), l_1 = pre ++ suf → v_5 = (pre.length : Int) → vI l_1 suf v_5 = some e0 → ∀ (nx : Nat), I ⟨[(0, .list 1 (l_1.map PV.str)), (5, .list 1 (l_1.map PV.str)), (6, .int .i64 (l_1.length : Int)), (7, .int .i64 v_5)], [], nx⟩ := by
   intro suf
   induction suf with
   | nil =>
    intro pre v_5 hsplit hidx hh nx
    rw [vI] at hh
    refine hI _ ?_
    have h15 := walk_nil hsplit hidx
    refine zb fun K kk hK => ?_
    simp only [go_sem]
    refine hK _ _ fun nx => ?_; clear hK K; try clear kk
    refine zm ?_
    refine zh (by first | exact congrArg PV.bool h15 | rfl) ?_
    refine zZ ?_; refine nmx ?_
    refine kN ?_
    refine zJ ?_
    refine ⟨(Option.some.inj hh), ?_⟩
    first | exact ⟨_, _, _, rfl⟩ | (simp only [pvE, lsE, zq]; exact ⟨_, _, _, rfl⟩) | (simp only [pvE, lsE, zq, h15]; exact ⟨_, _, _, rfl⟩)
   | cons y_9 suf ih =>
    intro pre v_5 hsplit hidx hh nx
    rw [vI] at hh
    refine hI _ ?_
    obtain ⟨hl0a, hl0b, hl0d, hl0w, h15⟩ := qI (f := PV.str) hsplit hidx hlen0
    refine zb fun K kk hK => ?_
    simp only [go_sem]
    refine hK _ _ fun nx => ?_; clear hK K; try clear kk
    refine zm ?_
    refine zn (by first | exact congrArg PV.bool h15 | rfl) ?_
    refine zx ?_; refine nmx ?_
    refine zm ?_
    refine zC ?_
    refine zb fun K kk hK => ?_
    simp only [go_sem, hl0a, hl0b, hl0d, hl0w]
    refine hK _ _ fun nx => ?_; clear hK K; try clear kk
    obtain ⟨alj, h16, hh⟩ := zf hh
    by_cases h17 : (!alj) = true
    ·rw [if_pos h17] at hh
     refine zb fun K kk hK => ?_
     simp only [go_sem, h17, hl0a, hl0b, hl0d, hl0w]
     (repeat refine sd ?_)
     refine ze (qZ _ _ h16) (by (try simp only [go_sem, h17, hl0a, hl0b, hl0d, hl0w]) <;> exact wkl) (by rfl) (by rfl) ?_
     simp only [go_sem, h17, hl0a, hl0b, hl0d, hl0w]
     (repeat refine sd ?_)
     refine hK _ _ fun nx => ?_; clear hK K; try clear kk
     refine zn rfl ?_
     refine zb fun K kk hK => ?_
     simp only [go_sem, hl0a, hl0b, hl0d, hl0w]
     refine hK _ _ fun nx => ?_; clear hK K; try clear kk
     refine zi ?_; refine nmx ?_
     refine QD ⟨_, (Option.some.inj hh), ?_⟩
     exact zy
    ·rw [if_neg h17] at hh
     replace h17 := Bool.eq_false_iff.mpr h17
     by_cases h18 : (decide (v_5 > (0 : Int))) = true
     ·rw [if_pos h18] at hh
      obtain ⟨agX, h19, hh⟩ := zf hh
      obtain ⟨h19a, h19b, h19c⟩ := rd_some h19
      have h19d := vz (f := PV.str) h19c
      have h19f := wX (f := PV.str) h19c
      try simp only [Int.toNat_natCast, Int.reduceToNat] at h19d h19f
      refine zb fun K kk hK => ?_
      simp only [go_sem, h17, h18, of_decide_eq_true h18, h19a, h19b, h19d, h19f.1, h19f.2, hl0a, hl0b, hl0d, hl0w]
      (repeat refine sd ?_)
      refine ze (qZ _ _ h16) (by (try simp only [go_sem, h17, h18, of_decide_eq_true h18, h19a, h19b, h19d, h19f.1, h19f.2, hl0a, hl0b, hl0d, hl0w]) <;> exact wkl) (by rfl) (by rfl) ?_
      simp only [go_sem, h17, h18, of_decide_eq_true h18, h19a, h19b, h19d, h19f.1, h19f.2, hl0a, hl0b, hl0d, hl0w]
      (repeat refine sd ?_)
      refine hK _ _ fun nx => ?_; clear hK K; try clear kk
      by_cases h20 : ((Op.bytesLess y_9 agX || y_9 == agX)) = true
      ·rw [if_pos h20] at hh
       refine zn (by first | exact congrArg PV.bool h20 | rfl) ?_
       refine zb fun K kk hK => ?_
       simp only [go_sem, hl0a, hl0b, hl0d, hl0w]
       refine hK _ _ fun nx => ?_; clear hK K; try clear kk
       refine zi ?_; refine nmx ?_
       refine QD ⟨_, (Option.some.inj hh), ?_⟩
       exact zy
      ·rw [if_neg h20] at hh
       replace h20 := Bool.eq_false_iff.mpr h20
       refine zh (by first | exact congrArg PV.bool h20 | rfl) ?_
       refine zx ?_; refine nmx ?_
       refine zu fun K kk hK => ?_
       simp only [go_sem, hl0a, hl0b, hl0d, hl0w]
       refine hK _ _ fun nx => ?_; clear hK K; try clear kk
       refine nmx ?_
       have ih' := ih (pre ++ [y_9]) (v_5 + 1) (by rw [hsplit]; simp) (by simp [hidx]) hh nx
       refine zJ ?_
       first | exact ih' | (simp only [pvE, lsE, zq] at ih' ⊢; exact ih') | (simp only [pvE, lsE, zq, h15, h17, h18, h20] at ih' ⊢; exact ih')
     ·rw [if_neg h18] at hh
      replace h18 := Bool.eq_false_iff.mpr h18
      refine zb fun K kk hK => ?_
      simp only [go_sem, h17, h18, of_decide_eq_false h18, hl0a, hl0b, hl0d, hl0w]
      (repeat refine sd ?_)
      refine ze (qZ _ _ h16) (by (try simp only [go_sem, h17, h18, of_decide_eq_false h18, hl0a, hl0b, hl0d, hl0w]) <;> exact wkl) (by rfl) (by rfl) ?_
      simp only [go_sem, h17, h18, of_decide_eq_false h18, hl0a, hl0b, hl0d, hl0w]
      (repeat refine sd ?_)
      refine hK _ _ fun nx => ?_; clear hK K; try clear kk
      refine zh rfl ?_
      refine zx ?_; refine nmx ?_
      refine zu fun K kk hK => ?_
      simp only [go_sem, hl0a, hl0b, hl0d, hl0w]
      refine hK _ _ fun nx => ?_; clear hK K; try clear kk
      refine nmx ?_
      have ih' := ih (pre ++ [y_9]) (v_5 + 1) (by rw [hsplit]; simp) (by simp [hidx]) hh nx
      refine zJ ?_
      first | exact ih' | (simp only [pvE, lsE, zq] at ih' ⊢; exact ih') | (simp only [pvE, lsE, zq, h15, h17, h18] at ih' ⊢; exact ih')
  exact key l_1 [] _ rfl rfl f0 _
 ·rintro s ⟨t, hless, rfl, Yh, Qk, nx, rfl⟩
  try dsimp only at hh
  refine nmy ?_
  first | (refine wm hless ?_; try refine kz ?_) | refine qH hless ?_ | refine qG hless ?_
  refine zb fun K kk hK => ?_
  simp only [go_sem]
  refine hK _ _ fun nx => ?_; clear hK K; try clear kk
  refine zi ?_; refine nmx ?_
  obtain hR := Option.some.inj hh
  subst hR
  exact zy
 ·intro i s h; exact h.elim
 ·rintro s ⟨ah7, rfl, hb⟩
  try dsimp only at hh
  obtain hR := Option.some.inj hh
  subst hR
  refine nmx ?_
  exact hb
theorem Jz (s_1 : Str) (R : Bool) (hh : Wx s_1 = some R) : PC Tryd.prog 81 [.str s_1] (.bool R) := by
 rw [Wx] at hh
 refine aer rfl ?_
 refine zb fun K kk hK => ?_
 simp only [go_sem]
 refine hK _ _ fun nx => ?_; clear hK K; try clear kk
 by_cases h1 : (decide ((s_1.length : Int) ≤ (40 : Int))) = true
 ·rw [if_pos h1] at hh
  obtain ⟨am0, h2, hh⟩ := zf hh
  refine zb fun K kk hK => ?_
  simp only [go_sem, h1, of_decide_eq_true h1]
  (repeat refine sd ?_)
  refine ze (kW _ _ h2) (by (try simp only [go_sem, h1, of_decide_eq_true h1]) <;> exact wkl) (by rfl) (by rfl) ?_
  simp only [go_sem, h1, of_decide_eq_true h1]
  (repeat refine sd ?_)
  refine hK _ _ fun nx => ?_; clear hK K; try clear kk
  refine zi ?_; refine nmx ?_
  obtain hR := Option.some.inj hh
  subst hR
  exact zy
 ·rw [if_neg h1] at hh
  replace h1 := Bool.eq_false_iff.mpr h1
  refine zb fun K kk hK => ?_
  simp only [go_sem, h1, of_decide_eq_false h1]
  (repeat refine sd ?_)
  refine hK _ _ fun nx => ?_; clear hK K; try clear kk
  refine zi ?_; refine nmx ?_
  obtain hR := Option.some.inj hh
  subst hR
  exact zy
end Go.Proofs.YtclohbgnaopjfaaDoor
