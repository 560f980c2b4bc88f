/- Texts of the proof of stepThroughCard -/
import Derived.Test.YtclohbgnaopjfaaDoorAgC
import Derived.Test.YtclohbgnaopjfaaDoorAgF
import Derived.Test.YtclohbgnaopjfaaDoorAgL
namespace Go.Proofs.YtclohbgnaopjfaaDoor
set_option linter.unusedSimpArgs false
set_option linter.unusedVariables false
open Go
set_option maxRecDepth 100000
theorem kv (n_1 : za) (R : Bool) (hh : jd n_1 = some R) : PC Tryd.prog 58 [.agg [.str n_1.Kind, .str n_1.Text, .list 1 (n_1.Marks.map PV.str), .list 2 (n_1.zu.map zh.pv), .list 5 (n_1.Kids.map za.pv)]] (.bool R) := by
 rw [jd] at hh
 refine abW rfl ?_
 refine zb fun K kk hK => ?_
 simp only [go_sem]
 refine hK _ _ fun nx => ?_; clear hK K; try clear kk
 refine zb fun K kk hK => ?_
 simp only [go_sem]
 refine hK _ _ fun nx => ?_; clear hK K; try clear kk
 refine zk ?_; refine nmx ?_
 obtain hR := Option.some.inj hh
 subst hR
 exact zy
theorem Z8 (s_1 : Str) (R : Int) (hh : qY s_1 = some R) : PC Tryd.prog 63 [.str s_1] (.int .i64 R) := by
 rw [qY] at hh
 refine yZ rfl ?_
 refine zb fun K kk hK => ?_
 simp only [go_sem]
 refine hK _ _ fun nx => ?_; clear hK K; try clear kk
 refine zm ?_
 refine zb fun K kk hK => ?_
 simp only [go_sem]
 refine hK _ _ fun nx => ?_; clear hK K; try clear kk
 obtain ⟨e0, f0, hh⟩ := ze hh
 refine qx (wS (fun s => ∃ n_4, n_4 = e0 ∧ ∃ (v_5 : Nat) (nx : Nat) (g4 : Nat), s = ⟨[(2, .int .i64 n_4), (4, .box 4 g4 0), (6, .bool false)], [(4, g4, .iter s_1 v_5)], nx⟩))
  (fun i s => False)
  (fun s => False) ?_ ?_ ?_ ?_
 ·refine zC ?_
  refine qo fun I hI => ?_
  obtain ⟨k, f0⟩ := y8 f0
  have key : ∀ (k : Nat) (n_2 : Int) (v_3 : Nat), zM s_1 k n_2 v_3 = some e0 → ∀ (nx : Nat) (g4 : Nat), I ⟨[(2, .int .i64 n_2), (4, .box 4 g4 0)], [(4, g4, .iter s_1 v_3)], nx⟩ := by
   intro k
   induction k with
   | zero => intro n_2 v_3 hh; rw [zM] at hh; cases hh
   | succ k ih =>
    intro n_2 v_3 hh nx g4
    rw [zM] at hh
    refine hI _ ?_
    by_cases h2 : (decide (v_3 < s_1.length)) = true
    ·rw [if_pos h2] at hh
     refine zb fun K kk hK => ?_
     simp only [go_sem, h2, of_decide_eq_true h2]
     (repeat refine sd ?_)
     refine hK _ _ fun nx => ?_; clear hK K; try clear kk
     refine zm ?_
     refine zn rfl ?_
     refine zt ?_; refine nmx ?_
     refine zC ?_
     refine zq fun K kk hK => ?_
     simp only [go_sem]
     refine hK _ _ fun nx => ?_; clear hK K; try clear kk
     refine nmx ?_
     have ih' := ih _ _ hh nx
     refine zJ ?_
     first | exact ih' _ | (simp only [pvE, lsE, zo] at ih' ⊢; exact ih' _) | (simp only [pvE, lsE, zo, h2] at ih' ⊢; exact ih' _)
    ·rw [if_neg h2] at hh
     replace h2 := Bool.eq_false_iff.mpr h2
     refine zb fun K kk hK => ?_
     simp only [go_sem, h2, of_decide_eq_false h2]
     (repeat refine sd ?_)
     refine hK _ _ fun nx => ?_; clear hK K; try clear kk
     refine zm ?_
     refine zi rfl ?_
     refine zZ ?_; refine nmx ?_
     refine kg ?_
     refine zJ ?_
     refine ⟨_, (Option.some.inj hh), ?_⟩
     first | exact ⟨_, _, _, rfl⟩ | (simp only [pvE, lsE, zo]; exact ⟨_, _, _, rfl⟩) | (simp only [pvE, lsE, zo, h2]; exact ⟨_, _, _, rfl⟩)
  exact key _ _ _ f0 _ _
 ·rintro s ⟨t, hless, n_4, rfl, v_5, nx, g4, rfl⟩
  try dsimp only at hh
  refine nmy ?_
  first | (refine qR hless ?_; try refine wT ?_) | refine qC hless ?_ | refine qE hless ?_
  refine zb fun K kk hK => ?_
  simp only [go_sem]
  refine hK _ _ fun nx => ?_; clear hK K; try clear kk
  refine zk ?_; refine nmx ?_
  obtain hR := Option.some.inj hh
  subst hR
  exact zy
 ·intro i s h; exact h.elim
 ·intro s h; exact h.elim
theorem Yp : ∀ kr : Nat, (∀ (l_1 : (List za)) (R : Int), xG kr l_1 = some R → PC Tryd.prog 27 [.list 5 (l_1.map za.pv)] (.int .i64 R)) ∧
    (∀ (n_1 : za) (R : Int), jh kr n_1 = some R → PC Tryd.prog 34 [.agg [.str n_1.Kind, .str n_1.Text, .list 1 (n_1.Marks.map PV.str), .list 2 (n_1.zu.map zh.pv), .list 5 (n_1.Kids.map za.pv)]] (.int .i64 R)) := by
  intro kr
  induction kr with
  | zero => exact ⟨(by intro l_1 R hh; rw [xG] at hh; cases hh), (by intro n_1 R hh; rw [jh] at hh; cases hh)⟩
  | succ kr ih =>
    obtain ⟨ih_node_Total, ih_node_Size⟩ := ih
    refine ⟨?_, ?_⟩
    · intro l_1 R hh
      rw [xG] at hh
      refine aec rfl ?_
      refine zb fun K kk hK => ?_
      simp only [go_sem]
      refine hK _ _ fun nx => ?_; clear hK K; try clear kk
      refine zb fun K kk hK => ?_
      simp only [go_sem]
      refine hK _ _ fun nx => ?_; clear hK K; try clear kk
      refine zm ?_
      refine zb fun K kk hK => ?_
      simp only [go_sem]
      refine hK _ _ fun nx => ?_; clear hK K; try clear kk
      obtain ⟨e0, f0, hh⟩ := ze hh
      obtain ⟨hlen0, f0⟩ := qa f0
      refine qx (wS (fun s => ∃ ac3, ac3 = e0 ∧ ∃ (yY : Int) (Zx : Bool) (nx : Nat), s = ⟨[(3, .int .i64 ac3), (6, .list 5 (l_1.map za.pv)), (7, .int .i64 (l_1.length : Int)), (8, .int .i64 yY), (9, .bool Zx)], [], nx⟩))
        (fun i s => False)
        (fun s => False) ?_ ?_ ?_ ?_
      · refine zC ?_
        refine qo fun I hI => ?_
        have key : ∀ (suf pre : List za) (v_5 : Int) (XF : Int), l_1 = pre ++ suf → v_5 = (pre.length : Int) → vZ (jh kr) suf v_5 XF = some e0 → ∀ (nx : Nat), I ⟨[(3, .int .i64 XF), (6, .list 5 (l_1.map za.pv)), (7, .int .i64 (l_1.length : Int)), (8, .int .i64 v_5)], [], nx⟩ := by
          intro suf
          induction suf with
          | nil =>
            intro pre v_5 XF hsplit hidx hh nx
            rw [vZ] at hh
            refine hI _ ?_
            have h7 := walk_nil hsplit hidx
            refine zb fun K kk hK => ?_
            simp only [go_sem]
            refine hK _ _ fun nx => ?_; clear hK K; try clear kk
            refine zm ?_
            refine zi (by first | exact congrArg PV.bool h7 | rfl) ?_
            refine zZ ?_; refine nmx ?_
            refine kg ?_
            refine zJ ?_
            refine ⟨_, (Option.some.inj hh), ?_⟩
            first | exact ⟨_, _, _, rfl⟩ | (simp only [pvE, lsE, zo]; exact ⟨_, _, _, rfl⟩) | (simp only [pvE, lsE, zo, h7]; exact ⟨_, _, _, rfl⟩)
          | cons y_8 suf ih =>
            intro pre v_5 XF hsplit hidx hh nx
            rw [vZ] at hh
            refine hI _ ?_
            obtain ⟨hl0a, hl0b, hl0d, hl0w, h7⟩ := qD (f := za.pv) hsplit hidx hlen0
            refine zb fun K kk hK => ?_
            simp only [go_sem]
            refine hK _ _ fun nx => ?_; clear hK K; try clear kk
            refine zm ?_
            refine zn (by first | exact congrArg PV.bool h7 | rfl) ?_
            refine zt ?_; refine nmx ?_
            refine zm ?_
            refine zC ?_
            refine zb fun K kk hK => ?_
            simp only [go_sem, hl0a, hl0b, hl0d, hl0w]
            refine hK _ _ fun nx => ?_; clear hK K; try clear kk
            obtain ⟨aqL, h8, hh⟩ := ze hh
            refine zq fun K kk hK => ?_
            simp only [go_sem, hl0a, hl0b, hl0d, hl0w]
            refine zf (ih_node_Size _ _ h8) (by (try simp only [go_sem, hl0a, hl0b, hl0d, hl0w]) <;> exact wkl) (by rfl) (by rfl) ?_
            simp only [go_sem, hl0a, hl0b, hl0d, hl0w]
            refine hK _ _ fun nx => ?_; clear hK K; try clear kk
            refine nmx ?_
            refine zq fun K kk hK => ?_
            simp only [go_sem, hl0a, hl0b, hl0d, hl0w]
            refine hK _ _ fun nx => ?_; clear hK K; try clear kk
            refine nmx ?_
            have ih' := ih (pre ++ [y_8]) (v_5 + 1) _ (by rw [hsplit]; simp) (by simp [hidx]) hh nx
            refine zJ ?_
            first | exact ih' | (simp only [pvE, lsE, zo] at ih' ⊢; exact ih') | (simp only [pvE, lsE, zo, h7] at ih' ⊢; exact ih')
        exact key l_1 [] _ _ rfl rfl f0 _
      · rintro s ⟨t, hless, ac3, rfl, yY, Zx, nx, rfl⟩
        try dsimp only at hh
        refine nmy ?_
        first | (refine qR hless ?_; try refine wT ?_) | refine qC hless ?_ | refine qE hless ?_
        refine zb fun K kk hK => ?_
        simp only [go_sem]
        refine hK _ _ fun nx => ?_; clear hK K; try clear kk
        refine zk ?_; refine nmx ?_
        obtain hR := Option.some.inj hh
        subst hR
        exact zy
      · intro i s h; exact h.elim
      · intro s h; exact h.elim
    · intro n_1 R hh
      rw [jh] at hh
      refine afk rfl ?_
      refine zb fun K kk hK => ?_
      simp only [go_sem]
      refine hK _ _ fun nx => ?_; clear hK K; try clear kk
      refine zm ?_
      obtain ⟨yn, h1, hh⟩ := ze hh
      refine zb fun K kk hK => ?_
      simp only [go_sem]
      refine zf (kv _ _ h1) (by (try simp only [go_sem]) <;> exact wkl) (by rfl) (by rfl) ?_
      simp only [go_sem]
      refine hK _ _ fun nx => ?_; clear hK K; try clear kk
      by_cases h2 : (yn) = true
      · rw [if_pos h2] at hh
        refine zn (by first | exact congrArg PV.bool h2 | rfl) ?_
        obtain ⟨akE, h3, hh⟩ := ze hh
        refine zb fun K kk hK => ?_
        simp only [go_sem]
        refine zf (Z8 _ _ h3) (by (try simp only [go_sem]) <;> exact wkl) (by rfl) (by rfl) ?_
        simp only [go_sem]
        refine hK _ _ fun nx => ?_; clear hK K; try clear kk
        refine zk ?_; refine nmx ?_
        obtain hR := Option.some.inj hh
        subst hR
        exact zy
      · rw [if_neg h2] at hh
        replace h2 := Bool.eq_false_iff.mpr h2
        refine zi (by first | exact congrArg PV.bool h2 | rfl) ?_
        refine zt ?_; refine nmx ?_
        obtain ⟨anV, h4, hh⟩ := ze hh
        refine zb fun K kk hK => ?_
        simp only [go_sem]
        refine zf (ih_node_Total _ _ h4) (by (try simp only [go_sem]) <;> exact wkl) (by rfl) (by rfl) ?_
        simp only [go_sem]
        refine hK _ _ fun nx => ?_; clear hK K; try clear kk
        refine zk ?_; refine nmx ?_
        obtain hR := Option.some.inj hh
        subst hR
        exact zy
theorem j6 (l_1 : (List za)) (R : Int) (hh : jr l_1 = some R) : PC Tryd.prog 27 [.list 5 (l_1.map za.pv)] (.int .i64 R) := by
 rw [jr] at hh
 obtain ⟨kr, hh⟩ := y8 hh
 exact (Yp kr).1 _ _ hh
theorem QE (n_1 : za) (R : Int) (hh : yI n_1 = some R) : PC Tryd.prog 34 [.agg [.str n_1.Kind, .str n_1.Text, .list 1 (n_1.Marks.map PV.str), .list 2 (n_1.zu.map zh.pv), .list 5 (n_1.Kids.map za.pv)]] (.int .i64 R) := by
 rw [yI] at hh
 obtain ⟨kr, hh⟩ := y8 hh
 exact (Yp kr).2 _ _ hh
theorem kF (s : Str) (R : Bool) (hh : wI s = some R) : PC Tryd.prog 103 [.str s] (.bool R) := by
 rw [wI] at hh
 exact ae4 ⟨_, Tryd.func103, by kernel_rfl, by kernel_rfl⟩ (fun s w h1 h2 => Any.utf8_ValidString Tryd.anQ s w h1 (atS h2)) s R hh
theorem vU (kN : (List Str)) (vB : (List Str)) (R : Bool) (hh : slices_Equal_string kN vB = some R) : PC Tryd.prog 42 [.list 1 (kN.map PV.str), .list 1 (vB.map PV.str)] (.bool R) := by
  rw [slices_Equal_string] at hh
  refine Vp rfl ?_
  refine zb fun K kk hK => ?_
  simp only [go_sem]
  refine hK _ _ fun nx => ?_; clear hK K; try clear kk
  refine zm ?_
  refine zb fun K kk hK => ?_
  simp only [go_sem]
  refine hK _ _ fun nx => ?_; clear hK K; try clear kk
  by_cases h1 : ((kN.length : Int) != (vB.length : Int)) = true
  · rw [if_pos h1] at hh
    refine zn (by first | exact congrArg PV.bool h1 | rfl) ?_
    refine zb fun K kk hK => ?_
    simp only [go_sem]
    refine hK _ _ fun nx => ?_; clear hK K; try clear kk
    refine zk ?_; refine nmx ?_
    obtain hR := Option.some.inj hh
    subst hR
    exact zy
  · rw [if_neg h1] at hh
    replace h1 := Bool.eq_false_iff.mpr h1
    refine zi (by first | exact congrArg PV.bool h1 | rfl) ?_
    refine zt ?_; refine nmx ?_
    refine zm ?_
    refine zb fun K kk hK => ?_
    simp only [go_sem]
    refine hK _ _ fun nx => ?_; clear hK K; try clear kk
    obtain ⟨e0, f0, hh⟩ := ze hh
    obtain ⟨hlen0, f0⟩ := qa f0
    refine qx (wS (fun s => .inr () = e0 ∧ ∃ (yY : Int) (Zx : Bool) (nx : Nat), s = ⟨[(0, .list 1 (kN.map PV.str)), (1, .list 1 (vB.map PV.str)), (12, .int .i64 (kN.length : Int)), (13, .int .i64 yY), (14, .bool Zx)], [], nx⟩))
      (fun i s => False)
      (fun s => ∃ qf, .inl qf = e0 ∧ zS Tryd.prog [.tmp 4] (.bool qf) [] .ret s) ?_ ?_ ?_ ?_
    · refine zC ?_
      refine qo fun I hI => ?_
      have key : ∀ (suf pre : List Str) (v_5 : Int), kN = pre ++ suf → v_5 = (pre.length : Int) → qb vB suf v_5 = some e0 → ∀ (nx : Nat), I ⟨[(0, .list 1 (kN.map PV.str)), (1, .list 1 (vB.map PV.str)), (12, .int .i64 (kN.length : Int)), (13, .int .i64 v_5)], [], nx⟩ := by
        intro suf
        induction suf with
        | nil =>
          intro pre v_5 hsplit hidx hh nx
          rw [qb] at hh
          refine hI _ ?_
          have h10 := walk_nil hsplit hidx
          refine zb fun K kk hK => ?_
          simp only [go_sem]
          refine hK _ _ fun nx => ?_; clear hK K; try clear kk
          refine zm ?_
          refine zi (by first | exact congrArg PV.bool h10 | rfl) ?_
          refine zZ ?_; refine nmx ?_
          refine kg ?_
          refine zJ ?_
          refine ⟨(Option.some.inj hh), ?_⟩
          first | exact ⟨_, _, _, rfl⟩ | (simp only [pvE, lsE, zo]; exact ⟨_, _, _, rfl⟩) | (simp only [pvE, lsE, zo, h1, h10]; exact ⟨_, _, _, rfl⟩)
        | cons y_8 suf ih =>
          intro pre v_5 hsplit hidx hh nx
          rw [qb] at hh
          refine hI _ ?_
          obtain ⟨hl0a, hl0b, hl0d, hl0w, h10⟩ := qD (f := PV.str) hsplit hidx hlen0
          refine zb fun K kk hK => ?_
          simp only [go_sem]
          refine hK _ _ fun nx => ?_; clear hK K; try clear kk
          refine zm ?_
          refine zn (by first | exact congrArg PV.bool h10 | rfl) ?_
          refine zt ?_; refine nmx ?_
          refine zm ?_
          refine zC ?_
          refine zb fun K kk hK => ?_
          simp only [go_sem, hl0a, hl0b, hl0d, hl0w]
          refine hK _ _ fun nx => ?_; clear hK K; try clear kk
          obtain ⟨x_9, h11, hh⟩ := ze hh
          obtain ⟨h11a, h11b, h11c⟩ := rd_some h11
          have h11d := vD (f := PV.str) h11c
          have h11f := wY (f := PV.str) h11c
          try simp only [Int.toNat_natCast, Int.reduceToNat] at h11d h11f
          refine zb fun K kk hK => ?_
          simp only [go_sem, h11a, h11b, h11d, h11f.1, h11f.2, hl0a, hl0b, hl0d, hl0w]
          (repeat refine sd ?_)
          refine hK _ _ fun nx => ?_; clear hK K; try clear kk
          by_cases h12 : (!(y_8 == x_9)) = true
          · rw [if_pos h12] at hh
            refine zn (by first | exact congrArg PV.bool h12 | rfl) ?_
            refine zb fun K kk hK => ?_
            simp only [go_sem, hl0a, hl0b, hl0d, hl0w]
            refine hK _ _ fun nx => ?_; clear hK K; try clear kk
            refine zk ?_; refine nmx ?_
            refine xZ ⟨_, (Option.some.inj hh), ?_⟩
            exact zy
          · rw [if_neg h12] at hh
            replace h12 := Bool.eq_false_iff.mpr h12
            refine zi (by first | exact congrArg PV.bool h12 | rfl) ?_
            refine zt ?_; refine nmx ?_
            refine zq fun K kk hK => ?_
            simp only [go_sem, hl0a, hl0b, hl0d, hl0w]
            refine hK _ _ fun nx => ?_; clear hK K; try clear kk
            refine nmx ?_
            have ih' := ih (pre ++ [y_8]) (v_5 + 1) (by rw [hsplit]; simp) (by simp [hidx]) hh nx
            refine zJ ?_
            first | exact ih' | (simp only [pvE, lsE, zo] at ih' ⊢; exact ih') | (simp only [pvE, lsE, zo, h1, h10, h12] at ih' ⊢; exact ih')
      exact key kN [] _ rfl rfl f0 _
    · rintro s ⟨t, hless, rfl, yY, Zx, nx, rfl⟩
      try dsimp only at hh
      refine nmy ?_
      first | (refine qR hless ?_; try refine wT ?_) | refine qC hless ?_ | refine qE hless ?_
      refine zb fun K kk hK => ?_
      simp only [go_sem]
      refine hK _ _ fun nx => ?_; clear hK K; try clear kk
      refine zk ?_; refine nmx ?_
      obtain hR := Option.some.inj hh
      subst hR
      exact zy
    · intro i s h; exact h.elim
    · rintro s ⟨qf, rfl, hb⟩
      try dsimp only at hh
      obtain hR := Option.some.inj hh
      subst hR
      refine nmx ?_
      exact hb
theorem V7 (a_1 : za) (b_2 : za) (R : Bool) (hh : ZB a_1 b_2 = some R) : PC Tryd.prog 104 [.agg [.str a_1.Kind, .str a_1.Text, .list 1 (a_1.Marks.map PV.str), .list 2 (a_1.zu.map zh.pv), .list 5 (a_1.Kids.map za.pv)], .agg [.str b_2.Kind, .str b_2.Text, .list 1 (b_2.Marks.map PV.str), .list 2 (b_2.zu.map zh.pv), .list 5 (b_2.Kids.map za.pv)]] (.bool R) := by
  rw [ZB] at hh
  refine ad3 rfl ?_
  refine zb fun K kk hK => ?_
  simp only [go_sem]
  refine hK _ _ fun nx => ?_; clear hK K; try clear kk
  obtain ⟨ahx, h1, hh⟩ := ze hh
  by_cases h2 : (ahx) = true
  · rw [if_pos h2] at hh
    obtain ⟨ahs, h3, hh⟩ := ze hh
    by_cases h4 : (ahs) = true
    · rw [if_pos h4] at hh
      obtain ⟨alc, h5, hh⟩ := ze hh
      refine zb fun K kk hK => ?_
      simp only [go_sem, h2, h4]
      (repeat refine sd ?_)
      refine zf (kv _ _ h1) (by (try simp only [go_sem, h2, h4]) <;> exact wkl) (by rfl) (by rfl) ?_
      simp only [go_sem, h2, h4]
      (repeat refine sd ?_)
      refine zf (kv _ _ h3) (by (try simp only [go_sem, h2, h4]) <;> exact wkl) (by rfl) (by rfl) ?_
      simp only [go_sem, h2, h4]
      (repeat refine sd ?_)
      refine zf (vU _ _ _ h5) (by (try simp only [go_sem, h2, h4]) <;> exact wkl) (by rfl) (by rfl) ?_
      simp only [go_sem, h2, h4]
      (repeat refine sd ?_)
      refine hK _ _ fun nx => ?_; clear hK K; try clear kk
      refine zk ?_; refine nmx ?_
      obtain hR := Option.some.inj hh
      subst hR
      exact zy
    · rw [if_neg h4] at hh
      replace h4 := Bool.eq_false_iff.mpr h4
      refine zb fun K kk hK => ?_
      simp only [go_sem, h2, h4]
      (repeat refine sd ?_)
      refine zf (kv _ _ h1) (by (try simp only [go_sem, h2, h4]) <;> exact wkl) (by rfl) (by rfl) ?_
      simp only [go_sem, h2, h4]
      (repeat refine sd ?_)
      refine zf (kv _ _ h3) (by (try simp only [go_sem, h2, h4]) <;> exact wkl) (by rfl) (by rfl) ?_
      simp only [go_sem, h2, h4]
      (repeat refine sd ?_)
      refine hK _ _ fun nx => ?_; clear hK K; try clear kk
      refine zk ?_; refine nmx ?_
      obtain hR := Option.some.inj hh
      subst hR
      exact zy
  · rw [if_neg h2] at hh
    replace h2 := Bool.eq_false_iff.mpr h2
    refine zb fun K kk hK => ?_
    simp only [go_sem, h2]
    (repeat refine sd ?_)
    refine zf (kv _ _ h1) (by (try simp only [go_sem, h2]) <;> exact wkl) (by rfl) (by rfl) ?_
    simp only [go_sem, h2]
    (repeat refine sd ?_)
    refine hK _ _ fun nx => ?_; clear hK K; try clear kk
    refine zk ?_; refine nmx ?_
    obtain hR := Option.some.inj hh
    subst hR
    exact zy
theorem ae5 (s : Str) (cutset : Str) (R : Str) (hh : Kv s cutset = some R) : PC Tryd.prog 102 [.str s, .str cutset] (.str R) := by
  rw [Kv] at hh
  exact aqV (tr := Lib.trimS) ⟨_, Tryd.func102, by kernel_rfl, by kernel_rfl⟩ (fun s c w h1 h2 h3 => Any.strings_Trim_laid Tryd.ar0 (by kernel_rfl) s c w h1 h2 h3) s cutset R hh
theorem qP (s_1 : Str) (R : Bool) (hh : yG s_1 = some R) : PC Tryd.prog 80 [.str s_1] (.bool R) := by
  rw [yG] at hh
  refine ae9 rfl ?_
  refine zb fun K kk hK => ?_
  simp only [go_sem]
  refine hK _ _ fun nx => ?_; clear hK K; try clear kk
  obtain ⟨am4, h1, hh⟩ := ze hh
  refine zb fun K kk hK => ?_
  simp only [go_sem]
  refine zf (ae5 _ _ _ h1) (by (try simp only [go_sem]) <;> exact wkl) (by rfl) (by rfl) ?_
  simp only [go_sem]
  refine hK _ _ fun nx => ?_; clear hK K; try clear kk
  by_cases h2 : (am4 == ([] : Str)) = true
  · rw [if_pos h2] at hh
    by_cases h3 : (!(s_1 == ([] : Str))) = true
    · rw [if_pos h3] at hh
      by_cases h4 : (decide ((s_1.length : Int) ≤ (8 : Int))) = true
      · rw [if_pos h4] at hh
        refine zb fun K kk hK => ?_
        simp only [go_sem, h2, h3, h4, of_decide_eq_true h4]
        (repeat refine sd ?_)
        refine hK _ _ fun nx => ?_; clear hK K; try clear kk
        refine zk ?_; refine nmx ?_
        obtain hR := Option.some.inj hh
        subst hR
        exact zy
      · rw [if_neg h4] at hh
        replace h4 := Bool.eq_false_iff.mpr h4
        refine zb fun K kk hK => ?_
        simp only [go_sem, h2, h3, h4, of_decide_eq_false h4]
        (repeat refine sd ?_)
        refine hK _ _ fun nx => ?_; clear hK K; try clear kk
        refine zk ?_; refine nmx ?_
        obtain hR := Option.some.inj hh
        subst hR
        exact zy
    · rw [if_neg h3] at hh
      replace h3 := Bool.eq_false_iff.mpr h3
      refine zb fun K kk hK => ?_
      simp only [go_sem, h2, h3]
      (repeat refine sd ?_)
      refine hK _ _ fun nx => ?_; clear hK K; try clear kk
      refine zk ?_; refine nmx ?_
      obtain hR := Option.some.inj hh
      subst hR
      exact zy
  · rw [if_neg h2] at hh
    replace h2 := Bool.eq_false_iff.mpr h2
    refine zb fun K kk hK => ?_
    simp only [go_sem, h2]
    (repeat refine sd ?_)
    refine hK _ _ fun nx => ?_; clear hK K; try clear kk
    refine zk ?_; refine nmx ?_
    obtain hR := Option.some.inj hh
    subst hR
    exact zy
theorem JF (l_1 : (List Str)) (R : Bool) (hh : KG l_1 = some R) : PC Tryd.prog 111 [.list 1 (l_1.map PV.str)] (.bool R) := by
  rw [KG] at hh
  refine afg rfl ?_
  refine zb fun K kk hK => ?_
  simp only [go_sem]
  refine hK _ _ fun nx => ?_; clear hK K; try clear kk
  refine zm ?_
  refine zb fun K kk hK => ?_
  simp only [go_sem]
  refine hK _ _ fun nx => ?_; clear hK K; try clear kk
  obtain ⟨e0, f0, hh⟩ := ze hh
  obtain ⟨hlen0, f0⟩ := qa f0
  refine qx (wS (fun s => .inr () = e0 ∧ ∃ (Xw : Int) (Wi : Bool) (nx : Nat), s = ⟨[(0, .list 1 (l_1.map PV.str)), (5, .list 1 (l_1.map PV.str)), (6, .int .i64 (l_1.length : Int)), (7, .int .i64 Xw), (8, .bool Wi)], [], nx⟩))
    (fun i s => False)
    (fun s => ∃ ag2, .inl ag2 = e0 ∧ zS Tryd.prog [.tmp 2] (.bool ag2) [] .ret s) ?_ ?_ ?_ ?_
  · refine zC ?_
    refine qo fun I hI => ?_
    have key : ∀ (suf pre : List Str) (v_5 : Int), l_1 = pre ++ suf → v_5 = (pre.length : Int) → kX l_1 suf v_5 = some e0 → ∀ (nx : Nat), I ⟨[(0, .list 1 (l_1.map PV.str)), (5, .list 1 (l_1.map PV.str)), (6, .int .i64 (l_1.length : Int)), (7, .int .i64 v_5)], [], nx⟩ := by
      intro suf
      induction suf with
      | nil =>
        intro pre v_5 hsplit hidx hh nx
        rw [kX] at hh
        refine hI _ ?_
        have h15 := walk_nil hsplit hidx
        refine zb fun K kk hK => ?_
        simp only [go_sem]
        refine hK _ _ fun nx => ?_; clear hK K; try clear kk
        refine zm ?_
        refine zi (by first | exact congrArg PV.bool h15 | rfl) ?_
        refine zZ ?_; refine nmx ?_
        refine kg ?_
        refine zJ ?_
        refine ⟨(Option.some.inj hh), ?_⟩
        first | exact ⟨_, _, _, rfl⟩ | (simp only [pvE, lsE, zo]; exact ⟨_, _, _, rfl⟩) | (simp only [pvE, lsE, zo, h15]; exact ⟨_, _, _, rfl⟩)
      | cons y_9 suf ih =>
        intro pre v_5 hsplit hidx hh nx
        rw [kX] at hh
        refine hI _ ?_
        obtain ⟨hl0a, hl0b, hl0d, hl0w, h15⟩ := qD (f := PV.str) hsplit hidx hlen0
        refine zb fun K kk hK => ?_
        simp only [go_sem]
        refine hK _ _ fun nx => ?_; clear hK K; try clear kk
        refine zm ?_
        refine zn (by first | exact congrArg PV.bool h15 | rfl) ?_
        refine zt ?_; refine nmx ?_
        refine zm ?_
        refine zC ?_
        refine zb fun K kk hK => ?_
        simp only [go_sem, hl0a, hl0b, hl0d, hl0w]
        refine hK _ _ fun nx => ?_; clear hK K; try clear kk
        obtain ⟨ajq, h16, hh⟩ := ze hh
        by_cases h17 : (!ajq) = true
        · rw [if_pos h17] at hh
          refine zb fun K kk hK => ?_
          simp only [go_sem, h17, hl0a, hl0b, hl0d, hl0w]
          (repeat refine sd ?_)
          refine zf (qP _ _ h16) (by (try simp only [go_sem, h17, hl0a, hl0b, hl0d, hl0w]) <;> exact wkl) (by rfl) (by rfl) ?_
          simp only [go_sem, h17, hl0a, hl0b, hl0d, hl0w]
          (repeat refine sd ?_)
          refine hK _ _ fun nx => ?_; clear hK K; try clear kk
          refine zn rfl ?_
          refine zb fun K kk hK => ?_
          simp only [go_sem, hl0a, hl0b, hl0d, hl0w]
          refine hK _ _ fun nx => ?_; clear hK K; try clear kk
          refine zk ?_; refine nmx ?_
          refine xZ ⟨_, (Option.some.inj hh), ?_⟩
          exact zy
        · rw [if_neg h17] at hh
          replace h17 := Bool.eq_false_iff.mpr h17
          by_cases h18 : (decide (v_5 > (0 : Int))) = true
          · rw [if_pos h18] at hh
            obtain ⟨ahi, h19, hh⟩ := ze hh
            obtain ⟨h19a, h19b, h19c⟩ := rd_some h19
            have h19d := vD (f := PV.str) h19c
            have h19f := wY (f := PV.str) h19c
            try simp only [Int.toNat_natCast, Int.reduceToNat] at h19d h19f
            refine zb fun K kk hK => ?_
            simp only [go_sem, h17, h18, of_decide_eq_true h18, h19a, h19b, h19d, h19f.1, h19f.2, hl0a, hl0b, hl0d, hl0w]
            (repeat refine sd ?_)
            refine zf (qP _ _ h16) (by (try simp only [go_sem, h17, h18, of_decide_eq_true h18, h19a, h19b, h19d, h19f.1, h19f.2, hl0a, hl0b, hl0d, hl0w]) <;> exact wkl) (by rfl) (by rfl) ?_
            simp only [go_sem, h17, h18, of_decide_eq_true h18, h19a, h19b, h19d, h19f.1, h19f.2, hl0a, hl0b, hl0d, hl0w]
            (repeat refine sd ?_)
            refine hK _ _ fun nx => ?_; clear hK K; try clear kk
            by_cases h20 : ((Op.bytesLess y_9 ahi || y_9 == ahi)) = true
            · rw [if_pos h20] at hh
              refine zn (by first | exact congrArg PV.bool h20 | rfl) ?_
              refine zb fun K kk hK => ?_
              simp only [go_sem, hl0a, hl0b, hl0d, hl0w]
              refine hK _ _ fun nx => ?_; clear hK K; try clear kk
              refine zk ?_; refine nmx ?_
              refine xZ ⟨_, (Option.some.inj hh), ?_⟩
              exact zy
            · rw [if_neg h20] at hh
              replace h20 := Bool.eq_false_iff.mpr h20
              refine zi (by first | exact congrArg PV.bool h20 | rfl) ?_
              refine zt ?_; refine nmx ?_
              refine zq fun K kk hK => ?_
              simp only [go_sem, hl0a, hl0b, hl0d, hl0w]
              refine hK _ _ fun nx => ?_; clear hK K; try clear kk
              refine nmx ?_
              have ih' := ih (pre ++ [y_9]) (v_5 + 1) (by rw [hsplit]; simp) (by simp [hidx]) hh nx
              refine zJ ?_
              first | exact ih' | (simp only [pvE, lsE, zo] at ih' ⊢; exact ih') | (simp only [pvE, lsE, zo, h15, h17, h18, h20] at ih' ⊢; exact ih')
          · rw [if_neg h18] at hh
            replace h18 := Bool.eq_false_iff.mpr h18
            refine zb fun K kk hK => ?_
            simp only [go_sem, h17, h18, of_decide_eq_false h18, hl0a, hl0b, hl0d, hl0w]
            (repeat refine sd ?_)
            refine zf (qP _ _ h16) (by (try simp only [go_sem, h17, h18, of_decide_eq_false h18, hl0a, hl0b, hl0d, hl0w]) <;> exact wkl) (by rfl) (by rfl) ?_
            simp only [go_sem, h17, h18, of_decide_eq_false h18, hl0a, hl0b, hl0d, hl0w]
            (repeat refine sd ?_)
            refine hK _ _ fun nx => ?_; clear hK K; try clear kk
            refine zi rfl ?_
            refine zt ?_; refine nmx ?_
            refine zq fun K kk hK => ?_
            simp only [go_sem, hl0a, hl0b, hl0d, hl0w]
            refine hK _ _ fun nx => ?_; clear hK K; try clear kk
            refine nmx ?_
            have ih' := ih (pre ++ [y_9]) (v_5 + 1) (by rw [hsplit]; simp) (by simp [hidx]) hh nx
            refine zJ ?_
            first | exact ih' | (simp only [pvE, lsE, zo] at ih' ⊢; exact ih') | (simp only [pvE, lsE, zo, h15, h17, h18] at ih' ⊢; exact ih')
    exact key l_1 [] _ rfl rfl f0 _
  · rintro s ⟨t, hless, rfl, Xw, Wi, nx, rfl⟩
    try dsimp only at hh
    refine nmy ?_
    first | (refine qR hless ?_; try refine wT ?_) | refine qC hless ?_ | refine qE hless ?_
    refine zb fun K kk hK => ?_
    simp only [go_sem]
    refine hK _ _ fun nx => ?_; clear hK K; try clear kk
    refine zk ?_; refine nmx ?_
    obtain hR := Option.some.inj hh
    subst hR
    exact zy
  · intro i s h; exact h.elim
  · rintro s ⟨ag2, rfl, hb⟩
    try dsimp only at hh
    obtain hR := Option.some.inj hh
    subst hR
    refine nmx ?_
    exact hb
theorem VN (s_1 : Str) (R : Bool) (hh : Q3 s_1 = some R) : PC Tryd.prog 81 [.str s_1] (.bool R) := by
  rw [Q3] at hh
  refine adD rfl ?_
  refine zb fun K kk hK => ?_
  simp only [go_sem]
  refine hK _ _ fun nx => ?_; clear hK K; try clear kk
  by_cases h1 : (decide ((s_1.length : Int) ≤ (40 : Int))) = true
  · rw [if_pos h1] at hh
    obtain ⟨alC, h2, hh⟩ := ze hh
    refine zb fun K kk hK => ?_
    simp only [go_sem, h1, of_decide_eq_true h1]
    (repeat refine sd ?_)
    refine zf (kF _ _ h2) (by (try simp only [go_sem, h1, of_decide_eq_true h1]) <;> exact wkl) (by rfl) (by rfl) ?_
    simp only [go_sem, h1, of_decide_eq_true h1]
    (repeat refine sd ?_)
    refine hK _ _ fun nx => ?_; clear hK K; try clear kk
    refine zk ?_; refine nmx ?_
    obtain hR := Option.some.inj hh
    subst hR
    exact zy
  · rw [if_neg h1] at hh
    replace h1 := Bool.eq_false_iff.mpr h1
    refine zb fun K kk hK => ?_
    simp only [go_sem, h1, of_decide_eq_false h1]
    (repeat refine sd ?_)
    refine hK _ _ fun nx => ?_; clear hK K; try clear kk
    refine zk ?_; refine nmx ?_
    obtain hR := Option.some.inj hh
    subst hR
    exact zy
end Go.Proofs.YtclohbgnaopjfaaDoor
