/- Texts of the proof of stepThroughCard -/
import Derived.Test.YtclohbgnaopjfaaDoorAgC
import Derived.Test.YtclohbgnaopjfaaDoorAgF
import Derived.Test.YtclohbgnaopjfaaDoorAgK0
import Derived.Test.YtclohbgnaopjfaaDoorAgK5
namespace Go.Proofs.YtclohbgnaopjfaaDoor
set_option linter.unusedSimpArgs false
set_option linter.unusedVariables false
open Go
set_option maxRecDepth 100000
theorem yg : ∀ kr : Nat, (∀ (kN : (List za)) (vB : (List za)) (R : Bool), qg kr kN vB = some R → PC Tryd.prog 44 [.list 5 (kN.map za.pv), .list 5 (vB.map za.pv), .fn 15 []] (.bool R)) ∧
    (∀ (a_1 : za) (b_2 : za) (R : Bool), jQ kr a_1 b_2 = some R → PC Tryd.prog 15 [.agg [.str a_1.Kind, .str a_1.Text, .list 1 (a_1.Marks.map PV.str), .list 2 (a_1.zu.map zh.pv), .list 5 (a_1.Kids.map za.pv)], .agg [.str b_2.Kind, .str b_2.Text, .list 1 (b_2.Marks.map PV.str), .list 2 (b_2.zu.map zh.pv), .list 5 (b_2.Kids.map za.pv)]] (.bool R)) := by
  intro kr
  induction kr with
  | zero => exact ⟨(by intro kN vB R hh; rw [qg] at hh; cases hh), (by intro a_1 b_2 R hh; rw [jQ] at hh; cases hh)⟩
  | succ kr ih =>
    obtain ⟨ih_slices_EqualFunc_api_Node_node_Same, ih_node_Same⟩ := ih
    refine ⟨?_, ?_⟩
    · intro kN vB R hh
      rw [qg] at hh
      refine xL rfl ?_
      refine zb fun K kk hK => ?_
      simp only [go_sem]
      refine hK _ _ fun nx => ?_; clear hK K; try clear kk
      refine zm ?_
      refine zb fun K kk hK => ?_
      simp only [go_sem]
      refine hK _ _ fun nx => ?_; clear hK K; try clear kk
      by_cases h1 : ((kN.length : Int) != (vB.length : Int)) = true
      · rw [if_pos h1] at hh
        refine zn (by first | exact congrArg PV.bool h1 | rfl) ?_
        refine zb fun K kk hK => ?_
        simp only [go_sem]
        refine hK _ _ fun nx => ?_; clear hK K; try clear kk
        refine zk ?_; refine nmx ?_
        obtain hR := Option.some.inj hh
        subst hR
        exact zy
      · rw [if_neg h1] at hh
        replace h1 := Bool.eq_false_iff.mpr h1
        refine zi (by first | exact congrArg PV.bool h1 | rfl) ?_
        refine zt ?_; refine nmx ?_
        refine zm ?_
        refine zb fun K kk hK => ?_
        simp only [go_sem]
        refine hK _ _ fun nx => ?_; clear hK K; try clear kk
        obtain ⟨e0, f0, hh⟩ := ze hh
        obtain ⟨hlen0, f0⟩ := qa f0
        refine qx (wS (fun s => .inr () = e0 ∧ ∃ (Wi : Int) (alo : Bool) (nx : Nat), s = ⟨[(1, .list 5 (vB.map za.pv)), (2, .fn 15 []), (15, .list 5 (kN.map za.pv)), (16, .int .i64 (kN.length : Int)), (17, .int .i64 Wi), (18, .bool alo)], [], nx⟩))
          (fun i s => False)
          (fun s => ∃ af6, .inl af6 = e0 ∧ zS Tryd.prog [.tmp 6] (.bool af6) [] .ret s) ?_ ?_ ?_ ?_
        · refine zC ?_
          refine qo fun I hI => ?_
          have key : ∀ (suf pre : List za) (v_6 : Int), kN = pre ++ suf → v_6 = (pre.length : Int) → zQ vB (jQ kr) suf v_6 = some e0 → ∀ (nx : Nat), I ⟨[(1, .list 5 (vB.map za.pv)), (2, .fn 15 []), (15, .list 5 (kN.map za.pv)), (16, .int .i64 (kN.length : Int)), (17, .int .i64 v_6)], [], nx⟩ := by
            intro suf
            induction suf with
            | nil =>
              intro pre v_6 hsplit hidx hh nx
              rw [zQ] at hh
              refine hI _ ?_
              have h12 := walk_nil hsplit hidx
              refine zb fun K kk hK => ?_
              simp only [go_sem]
              refine hK _ _ fun nx => ?_; clear hK K; try clear kk
              refine zm ?_
              refine zi (by first | exact congrArg PV.bool h12 | rfl) ?_
              refine zZ ?_; refine nmx ?_
              refine kg ?_
              refine zJ ?_
              refine ⟨(Option.some.inj hh), ?_⟩
              first | exact ⟨_, _, _, rfl⟩ | (simp only [pvE, lsE, zo]; exact ⟨_, _, _, rfl⟩) | (simp only [pvE, lsE, zo, h1, h12]; exact ⟨_, _, _, rfl⟩)
            | cons atr suf ih =>
              intro pre v_6 hsplit hidx hh nx
              rw [zQ] at hh
              refine hI _ ?_
              obtain ⟨hl0a, hl0b, hl0d, hl0w, h12⟩ := qD (f := za.pv) hsplit hidx hlen0
              refine zb fun K kk hK => ?_
              simp only [go_sem]
              refine hK _ _ fun nx => ?_; clear hK K; try clear kk
              refine zm ?_
              refine zn (by first | exact congrArg PV.bool h12 | rfl) ?_
              refine zt ?_; refine nmx ?_
              refine zm ?_
              refine zC ?_
              refine zb fun K kk hK => ?_
              simp only [go_sem, hl0a, hl0b, hl0d, hl0w]
              refine hK _ _ fun nx => ?_; clear hK K; try clear kk
              obtain ⟨ahi, h13, hh⟩ := ze hh
              obtain ⟨h13a, h13b, h13c⟩ := rd_some h13
              have h13d := vD (f := za.pv) h13c
              have h13f := wY (f := za.pv) h13c
              try simp only [Int.toNat_natCast, Int.reduceToNat] at h13d h13f
              refine zb fun K kk hK => ?_
              simp only [go_sem, h13a, h13b, h13d, h13f.1, h13f.2, hl0a, hl0b, hl0d, hl0w]
              (repeat refine sd ?_)
              refine hK _ _ fun nx => ?_; clear hK K; try clear kk
              obtain ⟨aj5, h14, hh⟩ := ze hh
              refine zb fun K kk hK => ?_
              simp only [go_sem, hl0a, hl0b, hl0d, hl0w]
              refine zf (ih_node_Same _ _ _ h14) (by (try simp only [go_sem, hl0a, hl0b, hl0d, hl0w]) <;> exact wkl) (by rfl) (by rfl) ?_
              simp only [go_sem, hl0a, hl0b, hl0d, hl0w]
              refine hK _ _ fun nx => ?_; clear hK K; try clear kk
              by_cases h15 : (!aj5) = true
              · rw [if_pos h15] at hh
                refine zn (by first | exact congrArg PV.bool h15 | rfl) ?_
                refine zb fun K kk hK => ?_
                simp only [go_sem, hl0a, hl0b, hl0d, hl0w]
                refine hK _ _ fun nx => ?_; clear hK K; try clear kk
                refine zk ?_; refine nmx ?_
                refine xZ ⟨_, (Option.some.inj hh), ?_⟩
                exact zy
              · rw [if_neg h15] at hh
                replace h15 := Bool.eq_false_iff.mpr h15
                refine zi (by first | exact congrArg PV.bool h15 | rfl) ?_
                refine zt ?_; refine nmx ?_
                refine zq fun K kk hK => ?_
                simp only [go_sem, hl0a, hl0b, hl0d, hl0w]
                refine hK _ _ fun nx => ?_; clear hK K; try clear kk
                refine nmx ?_
                have ih' := ih (pre ++ [atr]) (v_6 + 1) (by rw [hsplit]; simp) (by simp [hidx]) hh nx
                refine zJ ?_
                first | exact ih' | (simp only [pvE, lsE, zo] at ih' ⊢; exact ih') | (simp only [pvE, lsE, zo, h1, h12, h15] at ih' ⊢; exact ih')
          exact key kN [] _ rfl rfl f0 _
        · rintro s ⟨t, hless, rfl, Wi, alo, nx, rfl⟩
          try dsimp only at hh
          refine nmy ?_
          first | (refine qR hless ?_; try refine wT ?_) | refine qC hless ?_ | refine qE hless ?_
          refine zb fun K kk hK => ?_
          simp only [go_sem]
          refine hK _ _ fun nx => ?_; clear hK K; try clear kk
          refine zk ?_; refine nmx ?_
          obtain hR := Option.some.inj hh
          subst hR
          exact zy
        · intro i s h; exact h.elim
        · rintro s ⟨af6, rfl, hb⟩
          try dsimp only at hh
          obtain hR := Option.some.inj hh
          subst hR
          refine nmx ?_
          exact hb
    · intro a_1 b_2 R hh
      rw [jQ] at hh
      refine ae8 rfl ?_
      refine zb fun K kk hK => ?_
      simp only [go_sem]
      refine hK _ _ fun nx => ?_; clear hK K; try clear kk
      by_cases h1 : (a_1.Kind == b_2.Kind) = true
      · rw [if_pos h1] at hh
        by_cases h2 : (a_1.Text == b_2.Text) = true
        · rw [if_pos h2] at hh
          obtain ⟨ahg, h3, hh⟩ := ze hh
          by_cases h4 : (ahg) = true
          · rw [if_pos h4] at hh
            obtain ⟨amF, h5, hh⟩ := ze hh
            by_cases h6 : (amF) = true
            · rw [if_pos h6] at hh
              obtain ⟨aqp, h7, hh⟩ := ze hh
              refine zb fun K kk hK => ?_
              simp only [go_sem, h1, h2, h4, h6]
              (repeat refine sd ?_)
              refine zf (vU _ _ _ h3) (by (try simp only [go_sem, h1, h2, h4, h6]) <;> exact wkl) (by rfl) (by rfl) ?_
              simp only [go_sem, h1, h2, h4, h6]
              (repeat refine sd ?_)
              refine zf (Zk _ _ _ h5) (by (try simp only [go_sem, h1, h2, h4, h6]) <;> exact wkl) (by rfl) (by rfl) ?_
              simp only [go_sem, h1, h2, h4, h6]
              (repeat refine sd ?_)
              refine zf (ih_slices_EqualFunc_api_Node_node_Same _ _ _ h7) (by (try simp only [go_sem, h1, h2, h4, h6]) <;> exact wkl) (by rfl) (by rfl) ?_
              simp only [go_sem, h1, h2, h4, h6]
              (repeat refine sd ?_)
              refine hK _ _ fun nx => ?_; clear hK K; try clear kk
              refine zk ?_; refine nmx ?_
              obtain hR := Option.some.inj hh
              subst hR
              exact zy
            · rw [if_neg h6] at hh
              replace h6 := Bool.eq_false_iff.mpr h6
              refine zb fun K kk hK => ?_
              simp only [go_sem, h1, h2, h4, h6]
              (repeat refine sd ?_)
              refine zf (vU _ _ _ h3) (by (try simp only [go_sem, h1, h2, h4, h6]) <;> exact wkl) (by rfl) (by rfl) ?_
              simp only [go_sem, h1, h2, h4, h6]
              (repeat refine sd ?_)
              refine zf (Zk _ _ _ h5) (by (try simp only [go_sem, h1, h2, h4, h6]) <;> exact wkl) (by rfl) (by rfl) ?_
              simp only [go_sem, h1, h2, h4, h6]
              (repeat refine sd ?_)
              refine hK _ _ fun nx => ?_; clear hK K; try clear kk
              refine zk ?_; refine nmx ?_
              obtain hR := Option.some.inj hh
              subst hR
              exact zy
          · rw [if_neg h4] at hh
            replace h4 := Bool.eq_false_iff.mpr h4
            refine zb fun K kk hK => ?_
            simp only [go_sem, h1, h2, h4]
            (repeat refine sd ?_)
            refine zf (vU _ _ _ h3) (by (try simp only [go_sem, h1, h2, h4]) <;> exact wkl) (by rfl) (by rfl) ?_
            simp only [go_sem, h1, h2, h4]
            (repeat refine sd ?_)
            refine hK _ _ fun nx => ?_; clear hK K; try clear kk
            refine zk ?_; refine nmx ?_
            obtain hR := Option.some.inj hh
            subst hR
            exact zy
        · rw [if_neg h2] at hh
          replace h2 := Bool.eq_false_iff.mpr h2
          refine zb fun K kk hK => ?_
          simp only [go_sem, h1, h2]
          (repeat refine sd ?_)
          refine hK _ _ fun nx => ?_; clear hK K; try clear kk
          refine zk ?_; refine nmx ?_
          obtain hR := Option.some.inj hh
          subst hR
          exact zy
      · rw [if_neg h1] at hh
        replace h1 := Bool.eq_false_iff.mpr h1
        refine zb fun K kk hK => ?_
        simp only [go_sem, h1]
        (repeat refine sd ?_)
        refine hK _ _ fun nx => ?_; clear hK K; try clear kk
        refine zk ?_; refine nmx ?_
        obtain hR := Option.some.inj hh
        subst hR
        exact zy
theorem ajy (a_1 : za) (b_2 : za) (R : Bool) (hh : ZG a_1 b_2 = some R) : PC Tryd.prog 15 [.agg [.str a_1.Kind, .str a_1.Text, .list 1 (a_1.Marks.map PV.str), .list 2 (a_1.zu.map zh.pv), .list 5 (a_1.Kids.map za.pv)], .agg [.str b_2.Kind, .str b_2.Text, .list 1 (b_2.Marks.map PV.str), .list 2 (b_2.zu.map zh.pv), .list 5 (b_2.Kids.map za.pv)]] (.bool R) := by
 rw [ZG] at hh
 obtain ⟨kr, hh⟩ := y8 hh
 exact (yg kr).2 _ _ _ hh
theorem Xy (R : Bool) (hh : jA = some R) : PC Tryd.prog 24 [] (.bool R) := by
  rw [jA] at hh
  refine VU rfl ?_
  refine zb fun K kk hK => ?_
  simp only [go_sem]
  refine hK _ _ fun nx => ?_; clear hK K; try clear kk
  refine zb fun K kk hK => ?_
  simp only [go_sem]
  refine hK _ _ fun nx => ?_; clear hK K; try clear kk
  obtain ⟨⟨r_1, r_2⟩, h1, hh⟩ := ze hh
  dsimp only at hh
  refine zb fun K kk hK => ?_
  simp only [go_sem]
  refine zf (aaQ _ _ _ h1) (by (try simp only [go_sem]) <;> exact wkl) (by rfl) (by rfl) ?_
  simp only [go_sem]
  refine hK _ _ fun nx => ?_; clear hK K; try clear kk
  by_cases h2 : (r_2 == (0 : Int)) = true
  · rw [if_pos h2] at hh
    by_cases h3 : ((r_1.Kids.length : Int) == (1 : Int)) = true
    · rw [if_pos h3] at hh
      obtain ⟨x_3, h4, hh⟩ := ze hh
      obtain ⟨h4a, h4b, h4c⟩ := rd_some h4
      have h4d := vD (f := za.pv) h4c
      have h4f := wY (f := za.pv) h4c
      try simp only [Int.toNat_natCast, Int.reduceToNat] at h4d h4f
      by_cases h5 : ((x_3.Kids.length : Int) == (2 : Int)) = true
      · rw [if_pos h5] at hh
        obtain ⟨x_4, h6, hh⟩ := ze hh
        obtain ⟨h6a, h6b, h6c⟩ := rd_some h6
        have h6d := vD (f := za.pv) h6c
        have h6f := wY (f := za.pv) h6c
        try simp only [Int.toNat_natCast, Int.reduceToNat] at h6d h6f
        by_cases h7 : (x_4.Text == ([105] : Str)) = true
        · rw [if_pos h7] at hh
          refine zb fun K kk hK => ?_
          simp only [go_sem, h2, h3, h4a, h4b, h4d, h4f.1, h4f.2, h5, h6a, h6b, h6d, h6f.1, h6f.2, h7]
          (repeat refine sd ?_)
          refine hK _ _ fun nx => ?_; clear hK K; try clear kk
          refine zk ?_; refine nmx ?_
          obtain hR := Option.some.inj hh
          subst hR
          exact zy
        · rw [if_neg h7] at hh
          replace h7 := Bool.eq_false_iff.mpr h7
          refine zb fun K kk hK => ?_
          simp only [go_sem, h2, h3, h4a, h4b, h4d, h4f.1, h4f.2, h5, h6a, h6b, h6d, h6f.1, h6f.2, h7]
          (repeat refine sd ?_)
          refine hK _ _ fun nx => ?_; clear hK K; try clear kk
          refine zk ?_; refine nmx ?_
          obtain hR := Option.some.inj hh
          subst hR
          exact zy
      · rw [if_neg h5] at hh
        replace h5 := Bool.eq_false_iff.mpr h5
        refine zb fun K kk hK => ?_
        simp only [go_sem, h2, h3, h4a, h4b, h4d, h4f.1, h4f.2, h5]
        (repeat refine sd ?_)
        refine hK _ _ fun nx => ?_; clear hK K; try clear kk
        refine zk ?_; refine nmx ?_
        obtain hR := Option.some.inj hh
        subst hR
        exact zy
    · rw [if_neg h3] at hh
      replace h3 := Bool.eq_false_iff.mpr h3
      refine zb fun K kk hK => ?_
      simp only [go_sem, h2, h3]
      (repeat refine sd ?_)
      refine hK _ _ fun nx => ?_; clear hK K; try clear kk
      refine zk ?_; refine nmx ?_
      obtain hR := Option.some.inj hh
      subst hR
      exact zy
  · rw [if_neg h2] at hh
    replace h2 := Bool.eq_false_iff.mpr h2
    refine zb fun K kk hK => ?_
    simp only [go_sem, h2]
    (repeat refine sd ?_)
    refine hK _ _ fun nx => ?_; clear hK K; try clear kk
    refine zk ?_; refine nmx ?_
    obtain hR := Option.some.inj hh
    subst hR
    exact zy
theorem wB (c_1 : Int) (n_2 : Int) (R : Int) (hh : zV c_1 n_2 = some R) : PC Tryd.prog 26 [.int .i64 c_1, .int .i64 n_2] (.int .i64 R) := by
  rw [zV] at hh
  refine JB rfl ?_
  refine zb fun K kk hK => ?_
  simp only [go_sem]
  refine hK _ _ fun nx => ?_; clear hK K; try clear kk
  refine zm ?_
  refine zb fun K kk hK => ?_
  simp only [go_sem]
  refine hK _ _ fun nx => ?_; clear hK K; try clear kk
  by_cases h1 : (decide (c_1 < (0 : Int))) = true
  · rw [if_pos h1] at hh
    refine zn (by first | exact congrArg PV.bool h1 | rfl) ?_
    refine zq fun K kk hK => ?_
    simp only [go_sem]
    refine hK _ _ fun nx => ?_; clear hK K; try clear kk
    refine nmx ?_
    obtain ⟨h2, hh⟩ := qa hh
    refine zb fun K kk hK => ?_
    simp only [go_sem, h2]
    (repeat refine sd ?_)
    refine hK _ _ fun nx => ?_; clear hK K; try clear kk
    refine zk ?_; refine nmx ?_
    obtain hR := Option.some.inj hh
    subst hR
    exact zy
  · rw [if_neg h1] at hh
    replace h1 := Bool.eq_false_iff.mpr h1
    refine zi (by first | exact congrArg PV.bool h1 | rfl) ?_
    refine zt ?_; refine nmx ?_
    obtain ⟨h3, hh⟩ := qa hh
    refine zb fun K kk hK => ?_
    simp only [go_sem, h3]
    (repeat refine sd ?_)
    refine hK _ _ fun nx => ?_; clear hK K; try clear kk
    refine zk ?_; refine nmx ?_
    obtain hR := Option.some.inj hh
    subst hR
    exact zy
theorem Xx : ∀ kr : Nat, (∀ (n_1 : za) (R : Int), qF kr n_1 = some R → PC Tryd.prog 38 [.agg [.str n_1.Kind, .str n_1.Text, .list 1 (n_1.Marks.map PV.str), .list 2 (n_1.zu.map zh.pv), .list 5 (n_1.Kids.map za.pv)]] (.int .i64 R)) := by
  intro kr
  induction kr with
  | zero => exact (by intro n_1 R hh; rw [qF] at hh; cases hh)
  | succ kr ih =>
    have ih_diptychref1_Depth := ih
    clear ih
    intro n_1 R hh
    rw [qF] at hh
    refine Jn rfl ?_
    refine zb fun K kk hK => ?_
    simp only [go_sem]
    refine hK _ _ fun nx => ?_; clear hK K; try clear kk
    refine zm ?_
    refine zb fun K kk hK => ?_
    simp only [go_sem]
    refine hK _ _ fun nx => ?_; clear hK K; try clear kk
    by_cases h1 : (n_1.Kind == ([116, 101, 120, 116] : Str)) = true
    · rw [if_pos h1] at hh
      refine zn (by first | exact congrArg PV.bool h1 | rfl) ?_
      refine zb fun K kk hK => ?_
      simp only [go_sem]
      refine hK _ _ fun nx => ?_; clear hK K; try clear kk
      refine zk ?_; refine nmx ?_
      obtain hR := Option.some.inj hh
      subst hR
      exact zy
    · rw [if_neg h1] at hh
      replace h1 := Bool.eq_false_iff.mpr h1
      refine zi (by first | exact congrArg PV.bool h1 | rfl) ?_
      refine zt ?_; refine nmx ?_
      refine zb fun K kk hK => ?_
      simp only [go_sem]
      refine hK _ _ fun nx => ?_; clear hK K; try clear kk
      refine zm ?_
      refine zb fun K kk hK => ?_
      simp only [go_sem]
      refine hK _ _ fun nx => ?_; clear hK K; try clear kk
      obtain ⟨e0, f0, hh⟩ := ze hh
      obtain ⟨hlen0, f0⟩ := qa f0
      refine qx (wS (fun s => ∃ aqz, aqz = e0 ∧ ∃ (ap9 : Int) (Zx : Bool) (nx : Nat) (g1 : Nat), s = ⟨[(1, .box 1 g1 0), (3, .int .i64 aqz), (4, .int .i64 ap9), (12, .bool Zx)], [(1, g1, .var 28 [.str n_1.Kind, .str n_1.Text, .list 1 (n_1.Marks.map PV.str), .list 2 (n_1.zu.map zh.pv), .list 5 (n_1.Kids.map za.pv)])], nx⟩))
        (fun i s => False)
        (fun s => False) ?_ ?_ ?_ ?_
      · refine zC ?_
        refine qo fun I hI => ?_
        have key : ∀ (suf pre : List za) (i_5 : Int) (d_4 : Int), n_1.Kids = pre ++ suf → i_5 = (pre.length : Int) → qI (qF kr) suf i_5 d_4 = some e0 → ∀ (nx : Nat) (g1 : Nat), I ⟨[(1, .box 1 g1 0), (3, .int .i64 d_4), (4, .int .i64 i_5)], [(1, g1, .var 28 [.str n_1.Kind, .str n_1.Text, .list 1 (n_1.Marks.map PV.str), .list 2 (n_1.zu.map zh.pv), .list 5 (n_1.Kids.map za.pv)])], nx⟩ := by
          intro suf
          induction suf with
          | nil =>
            intro pre i_5 d_4 hsplit hidx hh nx g1
            rw [qI] at hh
            refine hI _ ?_
            have h8 := walk_nil hsplit hidx
            refine zm ?_
            refine zb fun K kk hK => ?_
            simp only [go_sem]
            refine hK _ _ fun nx => ?_; clear hK K; try clear kk
            refine zi (by first | exact congrArg PV.bool h8 | rfl) ?_
            refine zZ ?_; refine nmx ?_
            refine kg ?_
            refine zJ ?_
            refine ⟨_, (Option.some.inj hh), ?_⟩
            first | exact ⟨_, _, _, _, rfl⟩ | (simp only [pvE, lsE, zo]; exact ⟨_, _, _, _, rfl⟩) | (simp only [pvE, lsE, zo, h1, h8]; exact ⟨_, _, _, _, rfl⟩)
          | cons y_8 suf ih =>
            intro pre i_5 d_4 hsplit hidx hh nx g1
            rw [qI] at hh
            refine hI _ ?_
            obtain ⟨hl0a, hl0b, hl0d, hl0w, h8⟩ := qD (f := za.pv) hsplit hidx hlen0
            refine zm ?_
            refine zb fun K kk hK => ?_
            simp only [go_sem]
            refine hK _ _ fun nx => ?_; clear hK K; try clear kk
            refine zn (by first | exact congrArg PV.bool h8 | rfl) ?_
            refine zt ?_; refine nmx ?_
            refine zm ?_
            refine zC ?_
            obtain ⟨ajz, h9, hh⟩ := ze hh
            refine zq fun K kk hK => ?_
            simp only [go_sem, hl0a, hl0b, hl0d, hl0w]
            refine zf (ih_diptychref1_Depth _ _ h9) (by (try simp only [go_sem, hl0a, hl0b, hl0d, hl0w]) <;> exact wkl) (by rfl) (by rfl) ?_
            simp only [go_sem, hl0a, hl0b, hl0d, hl0w]
            refine hK _ _ fun nx => ?_; clear hK K; try clear kk
            refine nmx ?_
            refine zq fun K kk hK => ?_
            simp only [go_sem, hl0a, hl0b, hl0d, hl0w]
            refine hK _ _ fun nx => ?_; clear hK K; try clear kk
            refine nmx ?_
            have ih' := ih (pre ++ [y_8]) (i_5 + 1) _ (by rw [hsplit]; simp) (by simp [hidx]) hh nx
            refine zJ ?_
            first | exact ih' _ | (simp only [pvE, lsE, zo] at ih' ⊢; exact ih' _) | (simp only [pvE, lsE, zo, h1, h8] at ih' ⊢; exact ih' _)
        exact key n_1.Kids [] _ _ rfl rfl f0 _ _
      · rintro s ⟨t, hless, aqz, rfl, ap9, Zx, nx, g1, rfl⟩
        try dsimp only at hh
        refine nmy ?_
        first | (refine qR hless ?_; try refine wT ?_) | refine qC hless ?_ | refine qE hless ?_
        refine zb fun K kk hK => ?_
        simp only [go_sem]
        refine hK _ _ fun nx => ?_; clear hK K; try clear kk
        refine zk ?_; refine nmx ?_
        obtain hR := Option.some.inj hh
        subst hR
        exact zy
      · intro i s h; exact h.elim
      · intro s h; exact h.elim
theorem XO (n_1 : za) (R : Int) (hh : vK n_1 = some R) : PC Tryd.prog 38 [.agg [.str n_1.Kind, .str n_1.Text, .list 1 (n_1.Marks.map PV.str), .list 2 (n_1.zu.map zh.pv), .list 5 (n_1.Kids.map za.pv)]] (.int .i64 R) := by
 rw [vK] at hh
 obtain ⟨kr, hh⟩ := y8 hh
 exact (Xx kr) _ _ hh
theorem V6 (a_1 : (List Str)) (b_2 : (List Str)) (R : Bool) (hh : kQ a_1 b_2 = some R) : PC Tryd.prog 95 [.list 1 (a_1.map PV.str), .list 1 (b_2.map PV.str)] (.bool R) := by
  rw [kQ] at hh
  refine Ko rfl ?_
  refine zb fun K kk hK => ?_
  simp only [go_sem]
  refine hK _ _ fun nx => ?_; clear hK K; try clear kk
  refine zm ?_
  refine zb fun K kk hK => ?_
  simp only [go_sem]
  refine hK _ _ fun nx => ?_; clear hK K; try clear kk
  by_cases h1 : ((a_1.length : Int) != (b_2.length : Int)) = true
  · rw [if_pos h1] at hh
    refine zn (by first | exact congrArg PV.bool h1 | rfl) ?_
    refine zb fun K kk hK => ?_
    simp only [go_sem]
    refine hK _ _ fun nx => ?_; clear hK K; try clear kk
    refine zk ?_; refine nmx ?_
    obtain hR := Option.some.inj hh
    subst hR
    exact zy
  · rw [if_neg h1] at hh
    replace h1 := Bool.eq_false_iff.mpr h1
    refine zi (by first | exact congrArg PV.bool h1 | rfl) ?_
    refine zt ?_; refine nmx ?_
    refine zm ?_
    refine zb fun K kk hK => ?_
    simp only [go_sem]
    refine hK _ _ fun nx => ?_; clear hK K; try clear kk
    obtain ⟨e0, f0, hh⟩ := ze hh
    obtain ⟨hlen0, f0⟩ := qa f0
    refine qx (wS (fun s => .inr () = e0 ∧ ∃ (ap9 : Int) (Zx : Bool) (nx : Nat), s = ⟨[(0, .list 1 (a_1.map PV.str)), (1, .list 1 (b_2.map PV.str)), (5, .int .i64 ap9), (14, .bool Zx)], [], nx⟩))
      (fun i s => False)
      (fun s => ∃ qf, .inl qf = e0 ∧ zS Tryd.prog [.tmp 4] (.bool qf) [] .ret s) ?_ ?_ ?_ ?_
    · refine zC ?_
      refine qo fun I hI => ?_
      have key : ∀ (suf pre : List Str) (i_5 : Int), a_1 = pre ++ suf → i_5 = (pre.length : Int) → qw b_2 suf i_5 = some e0 → ∀ (nx : Nat), I ⟨[(0, .list 1 (a_1.map PV.str)), (1, .list 1 (b_2.map PV.str)), (5, .int .i64 i_5)], [], nx⟩ := by
        intro suf
        induction suf with
        | nil =>
          intro pre i_5 hsplit hidx hh nx
          rw [qw] at hh
          refine hI _ ?_
          have h10 := walk_nil hsplit hidx
          refine zm ?_
          refine zb fun K kk hK => ?_
          simp only [go_sem]
          refine hK _ _ fun nx => ?_; clear hK K; try clear kk
          refine zi (by first | exact congrArg PV.bool h10 | rfl) ?_
          refine zZ ?_; refine nmx ?_
          refine kg ?_
          refine zJ ?_
          refine ⟨(Option.some.inj hh), ?_⟩
          first | exact ⟨_, _, _, rfl⟩ | (simp only [pvE, lsE, zo]; exact ⟨_, _, _, rfl⟩) | (simp only [pvE, lsE, zo, h1, h10]; exact ⟨_, _, _, rfl⟩)
        | cons y_8 suf ih =>
          intro pre i_5 hsplit hidx hh nx
          rw [qw] at hh
          refine hI _ ?_
          obtain ⟨hl0a, hl0b, hl0d, hl0w, h10⟩ := qD (f := PV.str) hsplit hidx hlen0
          refine zm ?_
          refine zb fun K kk hK => ?_
          simp only [go_sem]
          refine hK _ _ fun nx => ?_; clear hK K; try clear kk
          refine zn (by first | exact congrArg PV.bool h10 | rfl) ?_
          refine zt ?_; refine nmx ?_
          refine zm ?_
          refine zC ?_
          obtain ⟨x_9, h11, hh⟩ := ze hh
          obtain ⟨h11a, h11b, h11c⟩ := rd_some h11
          have h11d := vD (f := PV.str) h11c
          have h11f := wY (f := PV.str) h11c
          try simp only [Int.toNat_natCast, Int.reduceToNat] at h11d h11f
          refine zb fun K kk hK => ?_
          simp only [go_sem, h11a, h11b, h11d, h11f.1, h11f.2, hl0a, hl0b, hl0d, hl0w]
          (repeat refine sd ?_)
          refine hK _ _ fun nx => ?_; clear hK K; try clear kk
          by_cases h12 : (!(y_8 == x_9)) = true
          · rw [if_pos h12] at hh
            refine zn (by first | exact congrArg PV.bool h12 | rfl) ?_
            refine zb fun K kk hK => ?_
            simp only [go_sem, hl0a, hl0b, hl0d, hl0w]
            refine hK _ _ fun nx => ?_; clear hK K; try clear kk
            refine zk ?_; refine nmx ?_
            refine xZ ⟨_, (Option.some.inj hh), ?_⟩
            exact zy
          · rw [if_neg h12] at hh
            replace h12 := Bool.eq_false_iff.mpr h12
            refine zi (by first | exact congrArg PV.bool h12 | rfl) ?_
            refine zt ?_; refine nmx ?_
            refine zq fun K kk hK => ?_
            simp only [go_sem, hl0a, hl0b, hl0d, hl0w]
            refine hK _ _ fun nx => ?_; clear hK K; try clear kk
            refine nmx ?_
            have ih' := ih (pre ++ [y_8]) (i_5 + 1) (by rw [hsplit]; simp) (by simp [hidx]) hh nx
            refine zJ ?_
            first | exact ih' | (simp only [pvE, lsE, zo] at ih' ⊢; exact ih') | (simp only [pvE, lsE, zo, h1, h10, h12] at ih' ⊢; exact ih')
      exact key a_1 [] _ rfl rfl f0 _
    · rintro s ⟨t, hless, rfl, ap9, Zx, nx, rfl⟩
      try dsimp only at hh
      refine nmy ?_
      first | (refine qR hless ?_; try refine wT ?_) | refine qC hless ?_ | refine qE hless ?_
      refine zb fun K kk hK => ?_
      simp only [go_sem]
      refine hK _ _ fun nx => ?_; clear hK K; try clear kk
      refine zk ?_; refine nmx ?_
      obtain hR := Option.some.inj hh
      subst hR
      exact zy
    · intro i s h; exact h.elim
    · rintro s ⟨qf, rfl, hb⟩
      try dsimp only at hh
      obtain hR := Option.some.inj hh
      subst hR
      refine nmx ?_
      exact hb
theorem Y6 (l_1 : (List za)) (R : (List za)) (hh : xn l_1 = some R) : PC Tryd.prog 65 [.list 5 (l_1.map za.pv)] (.own 5 (R.map za.pv)) := by
  rw [xn] at hh
  refine JQ rfl ?_
  refine zb fun K kk hK => ?_
  simp only [go_sem]
  refine hK _ _ fun nx => ?_; clear hK K; try clear kk
  refine zb fun K kk hK => ?_
  simp only [go_sem]
  refine hK _ _ fun nx => ?_; clear hK K; try clear kk
  refine zm ?_
  refine zb fun K kk hK => ?_
  simp only [go_sem]
  refine hK _ _ fun nx => ?_; clear hK K; try clear kk
  obtain ⟨e0, f0, hh⟩ := ze hh
  obtain ⟨hlen0, f0⟩ := qa f0
  refine qx (wS (fun s => ∃ ady, ady = e0 ∧ ∃ (auD : Int) (auK : Bool) (nx : Nat) (g3 : Nat), s = ⟨[(0, .list 5 (l_1.map za.pv)), (3, .row 3 g3 ady.length), (4, .int .i64 auD), (10, .bool auK)], [(3, g3, .row false 5 (ady.map za.pv))], nx⟩))
    (fun i s => False)
    (fun s => False) ?_ ?_ ?_ ?_
  · refine zC ?_
    refine qo fun I hI => ?_
    have key : ∀ (suf pre : List za) (V8 : Int) (vP : (List za)), l_1 = pre ++ suf → V8 = (pre.length : Int) → zW suf V8 vP = some e0 → ∀ (nx : Nat) (g3 : Nat), I ⟨[(0, .list 5 (l_1.map za.pv)), (3, .row 3 g3 vP.length), (4, .int .i64 V8)], [(3, g3, .row false 5 (vP.map za.pv))], nx⟩ := by
      intro suf
      induction suf with
      | nil =>
        intro pre V8 vP hsplit hidx hh nx g3
        rw [zW] at hh
        refine hI _ ?_
        have h37 := walk_nil hsplit hidx
        refine zm ?_
        refine zb fun K kk hK => ?_
        simp only [go_sem]
        refine hK _ _ fun nx => ?_; clear hK K; try clear kk
        refine zi (by first | exact congrArg PV.bool h37 | rfl) ?_
        refine zZ ?_; refine nmx ?_
        refine kg ?_
        refine zJ ?_
        refine ⟨_, (Option.some.inj hh), ?_⟩
        first | exact ⟨_, _, _, _, rfl⟩ | (simp only [pvE, lsE, zo]; exact ⟨_, _, _, _, rfl⟩) | (simp only [pvE, lsE, zo, h37]; exact ⟨_, _, _, _, rfl⟩)
      | cons Zl suf ih =>
        intro pre V8 vP hsplit hidx hh nx g3
        rw [zW] at hh
        refine hI _ ?_
        obtain ⟨hl0a, hl0b, hl0d, hl0w, h37⟩ := qD (f := za.pv) hsplit hidx hlen0
        refine zm ?_
        refine zb fun K kk hK => ?_
        simp only [go_sem]
        refine hK _ _ fun nx => ?_; clear hK K; try clear kk
        refine zn (by first | exact congrArg PV.bool h37 | rfl) ?_
        refine zt ?_; refine nmx ?_
        refine zm ?_
        refine zC ?_
        refine zb fun K kk hK => ?_
        simp only [go_sem, hl0a, hl0b, hl0d, hl0w]
        refine hK _ _ fun nx => ?_; clear hK K; try clear kk
        refine zb fun K kk hK => ?_
        simp only [go_sem, hl0a, hl0b, hl0d, hl0w]
        refine hK _ _ fun nx => ?_; clear hK K; try clear kk
        refine zm ?_
        obtain ⟨e3, f3, hh⟩ := ze hh
        refine Vd (fun s => .inr () = e3 ∧ ∃ (avk : Bool) (nx : Nat) (g3 : Nat) (g5 : Nat), s = ⟨[(0, .list 5 (l_1.map za.pv)), (3, .row 3 g3 vP.length), (4, .int .i64 V8), (5, .box 5 g5 0), (6, .int .i64 (w64 ((vP.length : Int) - (1 : Int)))), (27, .bool avk)], [(3, g3, .row false 5 (vP.map za.pv)), (5, g5, .var 28 [.str Zl.Kind, .str Zl.Text, .list 1 (Zl.Marks.map PV.str), .list 2 (Zl.zu.map zh.pv), .list 5 (Zl.Kids.map za.pv)])], nx⟩)
          (fun i s => (i = 1 ∧ .inl () = e3 ∧ ∃ (nx : Nat) (g3 : Nat) (g5 : Nat), s = ⟨[(0, .list 5 (l_1.map za.pv)), (3, .row 3 g3 vP.length), (4, .int .i64 V8), (5, .box 5 g5 0), (6, .int .i64 (w64 ((vP.length : Int) - (1 : Int)))), (27, .bool (Zl.Text == ([] : Str)))], [(3, g3, .row false 5 (vP.map za.pv)), (5, g5, .var 28 [.str Zl.Kind, .str Zl.Text, .list 1 (Zl.Marks.map PV.str), .list 2 (Zl.zu.map zh.pv), .list 5 (Zl.Kids.map za.pv)])], nx⟩))
          (fun s => False) ?_ ?_ ?_ ?_
        · have hh := f3
          by_cases h38 : (Zl.Kind == ([116, 101, 120, 116] : Str)) = true
          · rw [if_pos h38] at hh
            refine zb fun K kk hK => ?_
            simp only [go_sem, h38, hl0a, hl0b, hl0d, hl0w]
            (repeat refine sd ?_)
            refine hK _ _ fun nx => ?_; clear hK K; try clear kk
            by_cases h39 : (Zl.Text == ([] : Str)) = true
            · rw [if_pos h39] at hh
              refine zn (by first | exact congrArg PV.bool h39 | rfl) ?_
              refine zZ ?_; refine nmx ?_
              refine arP ⟨rfl, (Option.some.inj hh), ?_⟩
              first | exact ⟨_, _, _, rfl⟩ | (simp only [pvE, lsE, zo]; exact ⟨_, _, _, rfl⟩) | (simp only [pvE, lsE, zo, h37, h38, h39]; exact ⟨_, _, _, rfl⟩)
            · rw [if_neg h39] at hh
              replace h39 := Bool.eq_false_iff.mpr h39
              refine zi (by first | exact congrArg PV.bool h39 | rfl) ?_
              refine zt ?_; refine nmx ?_
              refine kg ?_
              refine zJ ?_
              refine ⟨(Option.some.inj hh), ?_⟩
              first | exact ⟨_, _, _, _, rfl⟩ | (simp only [pvE, lsE, zo]; exact ⟨_, _, _, _, rfl⟩) | (simp only [pvE, lsE, zo, h37, h38, h39]; exact ⟨_, _, _, _, rfl⟩)
          · rw [if_neg h38] at hh
            replace h38 := Bool.eq_false_iff.mpr h38
            refine zb fun K kk hK => ?_
            simp only [go_sem, h38, hl0a, hl0b, hl0d, hl0w]
            (repeat refine sd ?_)
            refine hK _ _ fun nx => ?_; clear hK K; try clear kk
            refine zi rfl ?_
            refine zt ?_; refine nmx ?_
            refine kg ?_
            refine zJ ?_
            refine ⟨(Option.some.inj hh), ?_⟩
            first | exact ⟨_, _, _, _, rfl⟩ | (simp only [pvE, lsE, zo]; exact ⟨_, _, _, _, rfl⟩) | (simp only [pvE, lsE, zo, h37, h38]; exact ⟨_, _, _, _, rfl⟩)
        · rintro s ⟨rfl, avk, nx, g3, g5, rfl⟩
          try dsimp only at hh
          refine zm ?_
          by_cases h40 : (Zl.Kind == ([116, 101, 120, 116] : Str)) = true
          · rw [if_pos h40] at hh
            by_cases h41 : (decide ((w64 ((vP.length : Int) - (1 : Int))) ≥ (0 : Int))) = true
            · rw [if_pos h41] at hh
              obtain ⟨ao1, h42, hh⟩ := ze hh
              obtain ⟨h42a, h42b, h42c⟩ := rd_some h42
              have h42d := vD (f := za.pv) h42c
              have h42f := wY (f := za.pv) h42c
              try simp only [Int.toNat_natCast, Int.reduceToNat] at h42d h42f
              by_cases h43 : (ao1.Kind == ([116, 101, 120, 116] : Str)) = true
              · rw [if_pos h43] at hh
                obtain ⟨ad9, h44, hh⟩ := ze hh
                refine zb fun K kk hK => ?_
                simp only [go_sem, h40, h41, of_decide_eq_true h41, h42a, h42b, h42d, h42f.1, h42f.2, h43, hl0a, hl0b, hl0d, hl0w]
                (repeat refine sd ?_)
                refine zf (V6 _ _ _ h44) (by (try simp only [go_sem, h40, h41, of_decide_eq_true h41, h42a, h42b, h42d, h42f.1, h42f.2, h43, hl0a, hl0b, hl0d, hl0w]) <;> exact wkl) (by rfl) (by rfl) ?_
                simp only [go_sem, h40, h41, of_decide_eq_true h41, h42a, h42b, h42d, h42f.1, h42f.2, h43, hl0a, hl0b, hl0d, hl0w]
                (repeat refine sd ?_)
                refine hK _ _ fun nx => ?_; clear hK K; try clear kk
                by_cases h45 : (ad9) = true
                · rw [if_pos h45] at hh
                  refine zn (by first | exact congrArg PV.bool h45 | rfl) ?_
                  obtain ⟨h46, hh⟩ := qa hh
                  refine zb fun K kk hK => ?_
                  simp only [go_sem, h42a, h42b, h42d, h42f.1, h42f.2, h46, hl0a, hl0b, hl0d, hl0w]
                  (repeat refine sd ?_)
                  refine hK _ _ fun nx => ?_; clear hK K; try clear kk
                  obtain ⟨avl, h47, hh⟩ := ze hh
                  obtain ⟨h47a, h47c⟩ := Wm h47
                  have h47g := aaB h47a
                  have h47d := YW (f := za.pv) h47c
                  try simp only [Int.toNat_natCast, Int.reduceToNat, List.map_cons, List.map_nil, pvE] at h47d
                  obtain ⟨auO, h48, hh⟩ := ze hh
                  obtain ⟨h48a, h48c⟩ := z8 h48
                  have h48d := qO (f := za.pv) h48c
                  have h48e := qQ h48c
                  try simp only [List.length_cons, List.length_nil, Nat.zero_add, Nat.reduceAdd] at h48a h48e
                  try simp only [h48e] at h48a
                  try simp only [List.map_cons, List.map_nil, List.nil_append, List.append_nil, List.cons_append, List.singleton_append, zo, pvE] at h48d
                  obtain ⟨apN, h49, hh⟩ := ze hh
                  obtain ⟨h49a, h49c⟩ := z8 h49
                  have h49d := qO (f := za.pv) h49c
                  have h49e := qQ h49c
                  try simp only [List.length_cons, List.length_nil, Nat.zero_add, Nat.reduceAdd] at h49a h49e
                  try simp only [h49e] at h49a
                  try simp only [List.map_cons, List.map_nil, List.nil_append, List.append_nil, List.cons_append, List.singleton_append, zo, pvE] at h49d
                  refine zb fun K kk hK => ?_
                  simp only [go_sem, h47a.1, h47a.2.1, h47a.2.2, h47d, h47g, h48a, h48d, h48e, h49a, h49d, h49e, hl0a, hl0b, hl0d, hl0w]
                  (repeat refine sd ?_)
                  refine hK _ _ fun nx => ?_; clear hK K; try clear kk
                  refine zZ ?_; refine nmx ?_
                  refine zq fun K kk hK => ?_
                  simp only [go_sem, hl0a, hl0b, hl0d, hl0w]
                  refine hK _ _ fun nx => ?_; clear hK K; try clear kk
                  refine nmx ?_
                  have ih' := ih (pre ++ [Zl]) (V8 + 1) _ (by rw [hsplit]; simp) (by simp [hidx]) hh nx
                  refine zJ ?_
                  first | exact ih' _ | (simp only [pvE, lsE, zo, h48e, h48d, h49e] at ih' ⊢; exact ih' _) | (simp only [pvE, lsE, zo, h48e, h48d, h49e, h37, h40, h41, h43, h45] at ih' ⊢; exact ih' _)
                · rw [if_neg h45] at hh
                  replace h45 := Bool.eq_false_iff.mpr h45
                  refine zi (by first | exact congrArg PV.bool h45 | rfl) ?_
                  refine zt ?_; refine nmx ?_
                  obtain ⟨apY, h50, hh⟩ := ze hh
                  obtain ⟨h50a, h50c⟩ := z8 h50
                  have h50d := qO (f := za.pv) h50c
                  have h50e := qQ h50c
                  try simp only [List.length_cons, List.length_nil, Nat.zero_add, Nat.reduceAdd] at h50a h50e
                  try simp only [h50e] at h50a
                  try simp only [List.map_cons, List.map_nil, List.nil_append, List.append_nil, List.cons_append, List.singleton_append, zo, pvE] at h50d
                  refine zq fun K kk hK => ?_
                  simp only [go_sem, h50a, h50d, h50e, hl0a, hl0b, hl0d, hl0w]
                  (repeat refine sd ?_)
                  refine hK _ _ fun nx => ?_; clear hK K; try clear kk
                  refine nmx ?_
                  refine zq fun K kk hK => ?_
                  simp only [go_sem, hl0a, hl0b, hl0d, hl0w]
                  refine hK _ _ fun nx => ?_; clear hK K; try clear kk
                  refine nmx ?_
                  have ih' := ih (pre ++ [Zl]) (V8 + 1) _ (by rw [hsplit]; simp) (by simp [hidx]) hh nx
                  refine zJ ?_
                  first | exact ih' _ | (simp only [pvE, lsE, zo, h50e] at ih' ⊢; exact ih' _) | (simp only [pvE, lsE, zo, h50e, h37, h40, h41, h43, h45] at ih' ⊢; exact ih' _)
              · rw [if_neg h43] at hh
                replace h43 := Bool.eq_false_iff.mpr h43
                refine zb fun K kk hK => ?_
                simp only [go_sem, h40, h41, of_decide_eq_true h41, h42a, h42b, h42d, h42f.1, h42f.2, h43, hl0a, hl0b, hl0d, hl0w]
                (repeat refine sd ?_)
                refine hK _ _ fun nx => ?_; clear hK K; try clear kk
                refine zi rfl ?_
                refine zt ?_; refine nmx ?_
                obtain ⟨aqE, h51, hh⟩ := ze hh
                obtain ⟨h51a, h51c⟩ := z8 h51
                have h51d := qO (f := za.pv) h51c
                have h51e := qQ h51c
                try simp only [List.length_cons, List.length_nil, Nat.zero_add, Nat.reduceAdd] at h51a h51e
                try simp only [h51e] at h51a
                try simp only [List.map_cons, List.map_nil, List.nil_append, List.append_nil, List.cons_append, List.singleton_append, zo, pvE] at h51d
                refine zq fun K kk hK => ?_
                simp only [go_sem, h51a, h51d, h51e, hl0a, hl0b, hl0d, hl0w]
                (repeat refine sd ?_)
                refine hK _ _ fun nx => ?_; clear hK K; try clear kk
                refine nmx ?_
                refine zq fun K kk hK => ?_
                simp only [go_sem, hl0a, hl0b, hl0d, hl0w]
                refine hK _ _ fun nx => ?_; clear hK K; try clear kk
                refine nmx ?_
                have ih' := ih (pre ++ [Zl]) (V8 + 1) _ (by rw [hsplit]; simp) (by simp [hidx]) hh nx
                refine zJ ?_
                first | exact ih' _ | (simp only [pvE, lsE, zo, h51e] at ih' ⊢; exact ih' _) | (simp only [pvE, lsE, zo, h51e, h37, h40, h41, h43] at ih' ⊢; exact ih' _)
            · rw [if_neg h41] at hh
              replace h41 := Bool.eq_false_iff.mpr h41
              refine zb fun K kk hK => ?_
              simp only [go_sem, h40, h41, of_decide_eq_false h41, hl0a, hl0b, hl0d, hl0w]
              (repeat refine sd ?_)
              refine hK _ _ fun nx => ?_; clear hK K; try clear kk
              refine zi rfl ?_
              refine zt ?_; refine nmx ?_
              obtain ⟨apO, h52, hh⟩ := ze hh
              obtain ⟨h52a, h52c⟩ := z8 h52
              have h52d := qO (f := za.pv) h52c
              have h52e := qQ h52c
              try simp only [List.length_cons, List.length_nil, Nat.zero_add, Nat.reduceAdd] at h52a h52e
              try simp only [h52e] at h52a
              try simp only [List.map_cons, List.map_nil, List.nil_append, List.append_nil, List.cons_append, List.singleton_append, zo, pvE] at h52d
              refine zq fun K kk hK => ?_
              simp only [go_sem, h52a, h52d, h52e, hl0a, hl0b, hl0d, hl0w]
              (repeat refine sd ?_)
              refine hK _ _ fun nx => ?_; clear hK K; try clear kk
              refine nmx ?_
              refine zq fun K kk hK => ?_
              simp only [go_sem, hl0a, hl0b, hl0d, hl0w]
              refine hK _ _ fun nx => ?_; clear hK K; try clear kk
              refine nmx ?_
              have ih' := ih (pre ++ [Zl]) (V8 + 1) _ (by rw [hsplit]; simp) (by simp [hidx]) hh nx
              refine zJ ?_
              first | exact ih' _ | (simp only [pvE, lsE, zo, h52e] at ih' ⊢; exact ih' _) | (simp only [pvE, lsE, zo, h52e, h37, h40, h41] at ih' ⊢; exact ih' _)
          · rw [if_neg h40] at hh
            replace h40 := Bool.eq_false_iff.mpr h40
            refine zb fun K kk hK => ?_
            simp only [go_sem, h40, hl0a, hl0b, hl0d, hl0w]
            (repeat refine sd ?_)
            refine hK _ _ fun nx => ?_; clear hK K; try clear kk
            refine zi rfl ?_
            refine zt ?_; refine nmx ?_
            obtain ⟨auX, h53, hh⟩ := ze hh
            obtain ⟨h53a, h53c⟩ := z8 h53
            have h53d := qO (f := za.pv) h53c
            have h53e := qQ h53c
            try simp only [List.length_cons, List.length_nil, Nat.zero_add, Nat.reduceAdd] at h53a h53e
            try simp only [h53e] at h53a
            try simp only [List.map_cons, List.map_nil, List.nil_append, List.append_nil, List.cons_append, List.singleton_append, zo, pvE] at h53d
            refine zq fun K kk hK => ?_
            simp only [go_sem, h53a, h53d, h53e, hl0a, hl0b, hl0d, hl0w]
            (repeat refine sd ?_)
            refine hK _ _ fun nx => ?_; clear hK K; try clear kk
            refine nmx ?_
            refine zq fun K kk hK => ?_
            simp only [go_sem, hl0a, hl0b, hl0d, hl0w]
            refine hK _ _ fun nx => ?_; clear hK K; try clear kk
            refine nmx ?_
            have ih' := ih (pre ++ [Zl]) (V8 + 1) _ (by rw [hsplit]; simp) (by simp [hidx]) hh nx
            refine zJ ?_
            first | exact ih' _ | (simp only [pvE, lsE, zo, h53e] at ih' ⊢; exact ih' _) | (simp only [pvE, lsE, zo, h53e, h37, h40] at ih' ⊢; exact ih' _)
        · intro i s h
          obtain ⟨rfl, rfl, nx, g3, g5, rfl⟩ := h
          try dsimp only at hh
          refine nmx ?_
          refine zq fun K kk hK => ?_
          simp only [go_sem, hl0a, hl0b, hl0d, hl0w]
          refine hK _ _ fun nx => ?_; clear hK K; try clear kk
          refine nmx ?_
          have ih' := ih (pre ++ [Zl]) (V8 + 1) _ (by rw [hsplit]; simp) (by simp [hidx]) hh nx
          refine zJ ?_
          first | exact ih' _ | (simp only [pvE, lsE, zo] at ih' ⊢; exact ih' _) | (simp only [pvE, lsE, zo, h37] at ih' ⊢; exact ih' _)
        · intro s h; exact h.elim
    exact key l_1 [] _ _ rfl rfl f0 _ _
  · rintro s ⟨t, hless, ady, rfl, auD, auK, nx, g3, rfl⟩
    try dsimp only at hh
    refine nmy ?_
    first | (refine qR hless ?_; try refine wT ?_) | refine qC hless ?_ | refine qE hless ?_
    refine zb fun K kk hK => ?_
    simp only [go_sem]
    refine hK _ _ fun nx => ?_; clear hK K; try clear kk
    refine zk ?_; refine nmx ?_
    obtain hR := Option.some.inj hh
    subst hR
    exact YT (by rfl) (by rfl) (by rfl) (by simp only [List.length_map, List.length_cons, List.length_nil, Nat.zero_add, Nat.reduceAdd]) (by first | rfl | (simp only [pvE, lsE, zo]; done) | (simp only [pvE, lsE, zo]; rfl))
  · intro i s h; exact h.elim
  · intro s h; exact h.elim
theorem Yg (x_1 : zx) (afp : (List za)) (R : za) (hh : vM x_1 afp = some R) : PC Tryd.prog 56 [.agg [.int .i64 x_1.Text, .int .i64 x_1.Marks, .int .i64 x_1.zu, .int .i64 x_1.In], .list 5 (afp.map za.pv)] (.agg [.str R.Kind, .str R.Text, .list 1 (R.Marks.map PV.str), .list 2 (R.zu.map zh.pv), .list 5 (R.Kids.map za.pv)]) := by
  rw [vM] at hh
  refine JA rfl ?_
  refine zb fun K kk hK => ?_
  simp only [go_sem]
  refine hK _ _ fun nx => ?_; clear hK K; try clear kk
  refine zb fun K kk hK => ?_
  simp only [go_sem]
  refine hK _ _ fun nx => ?_; clear hK K; try clear kk
  refine zb fun K kk hK => ?_
  simp only [go_sem]
  refine hK _ _ fun nx => ?_; clear hK K; try clear kk
  obtain ⟨apX, h1, hh⟩ := ze hh
  obtain ⟨x_4, h2, hh⟩ := ze hh
  obtain ⟨h2a, h2b, h2c⟩ := rd_some h2
  have h2d := vD (f := PV.str) h2c
  have h2f := wY (f := PV.str) h2c
  try simp only [Int.toNat_natCast, Int.reduceToNat] at h2d h2f
  simp only [List.length_cons, List.length_nil, List.map_cons, List.map_nil, Nat.zero_add, Nat.reduceAdd, reduceCtorEq, not_false_eq_true, and_true, pvE] at h2b h2d h2f
  obtain ⟨arF, h3, hh⟩ := ze hh
  obtain ⟨x_6, h4, hh⟩ := ze hh
  obtain ⟨h4a, h4b, h4c⟩ := rd_some h4
  have h4d := vD (f := PV.str) h4c
  have h4f := wY (f := PV.str) h4c
  try simp only [Int.toNat_natCast, Int.reduceToNat] at h4d h4f
  simp only [List.length_cons, List.length_nil, List.map_cons, List.map_nil, Nat.zero_add, Nat.reduceAdd, reduceCtorEq, not_false_eq_true, and_true, pvE] at h4b h4d h4f
  refine zb fun K kk hK => ?_
  simp only [go_sem, h2a, h2b, h2d, h4a, h4b, h4d, h2f, h4f]
  (repeat refine sd ?_)
  refine zf (wB _ _ _ h1) (by (try simp only [go_sem, h2a, h2b, h2d, h4a, h4b, h4d, h2f, h4f]) <;> exact wkl) (by rfl) (by rfl) ?_
  simp only [go_sem, h2a, h2b, h2d, h4a, h4b, h4d, h2f, h4f]
  (repeat refine sd ?_)
  refine zf (wB _ _ _ h3) (by (try simp only [go_sem, h2a, h2b, h2d, h4a, h4b, h4d, h2f, h4f]) <;> exact wkl) (by rfl) (by rfl) ?_
  simp only [go_sem, h2a, h2b, h2d, h4a, h4b, h4d, h2f, h4f]
  (repeat refine sd ?_)
  refine hK _ _ fun nx => ?_; clear hK K; try clear kk
  obtain ⟨agZ, h5, hh⟩ := ze hh
  refine zb fun K kk hK => ?_
  simp only [go_sem]
  refine zf (Y6 _ _ h5).list (by (try simp only [go_sem]) <;> exact wkl) (by rfl) (by rfl) ?_
  simp only [go_sem]
  refine hK _ _ fun nx => ?_; clear hK K; try clear kk
  refine zk ?_; refine nmx ?_
  obtain hR := Option.some.inj hh
  subst hR
  exact zy
end Go.Proofs.YtclohbgnaopjfaaDoor
