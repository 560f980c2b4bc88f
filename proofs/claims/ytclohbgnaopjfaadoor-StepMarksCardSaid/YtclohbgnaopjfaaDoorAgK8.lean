/- Texts of the proof of stepMarksCard -/
import Derived.Test.YtclohbgnaopjfaaDoorAgC
import Derived.Test.YtclohbgnaopjfaaDoorAgF
import Derived.Test.YtclohbgnaopjfaaDoorAgK0
import Derived.Test.YtclohbgnaopjfaaDoorAgK5
import Derived.Test.YtclohbgnaopjfaaDoorAgK6
import Derived.Test.YtclohbgnaopjfaaDoorAgK7
namespace Go.Proofs.YtclohbgnaopjfaaDoor
set_option linter.unusedSimpArgs false
set_option linter.unusedVariables false
open Go
set_option maxRecDepth 100000
theorem aaN : ∀ kr : Nat, (∀ (n_1 : za) (l_2 : (List UInt8)) (R : (List UInt8)), wJ kr n_1 l_2 = some R → BC Tryd.prog 57 [.agg [.str n_1.Kind, .str n_1.Text, .list 1 (n_1.Marks.map PV.str), .list 2 (n_1.zu.map zg.pv), .list 5 (n_1.Kids.map za.pv)], .box 1000 0 0, .box 1002 0 0] [.var 101 [.qW 1000 0, .row 1001 0 l_2.length], .bytes 5 l_2, .var 110 [.fn 57 [.box 1000 0 0, .box 1002 0 0]]] (.tup []) [.var 101 [.qW 1000 0, .row 1001 0 R.length], .Wq 5 R, .var 110 [.fn 57 [.box 1000 0 0, .box 1002 0 0]]]) := by
  intro kr
  induction kr with
  | zero => exact (by intro n_1 l_2 R hh; rw [wJ] at hh; cases hh)
  | succ kr ih =>
    have ih_node_Words_1_x := ih
    clear ih
    intro n_1 l_2 R hh
    rw [wJ] at hh
    refine X6 rfl rfl rfl ?_
    refine zb fun K kk hK => ?_
    simp only [go_sem]
    refine hK _ _ fun nx => ?_; clear hK K; try clear kk
    refine zk ?_
    obtain ⟨Ky, h1, hh⟩ := ze hh
    refine zb fun K kk hK => ?_
    simp only [go_sem]
    refine zf (wH _ _ h1) (by (try simp only [go_sem]) <;> exact wkl) (by rfl) (by rfl) ?_
    simp only [go_sem]
    refine hK _ _ fun nx => ?_; clear hK K; try clear kk
    by_cases h2 : (Ky) = true
    · rw [if_pos h2] at hh
      refine zm (by first | exact congrArg PV.bool h2 | rfl) ?_
      obtain ⟨⟨r_4, l_5⟩, h3, hh⟩ := ze hh
      dsimp only at hh
      refine zb fun K kk hK => ?_
      simp only [go_sem]
      refine jb [1000, 1001] (by decide) (Z6 _ _ _ h3) (by (try simp only [go_sem, h2]) <;> exact wkb) (by rfl) ?_
      simp only [go_sem]
      refine hK _ _ fun nx => ?_; clear hK K; try clear kk
      refine zi ?_; refine nmx ?_
      obtain hR := Option.some.inj hh
      subst hR
      refine kH ?_ (by rfl) ?_
      · simp only [go_sem, wo, jo, wX, kS, yC, List.map_cons, List.map_append, List.head?_cons, h2]
        all_goals exact wkw
      · (try simp only [go_sem, h2]); (try simp only [List.length_append, List.map_append]); all_goals exact wkb
    · rw [if_neg h2] at hh
      replace h2 := Bool.eq_false_iff.mpr h2
      refine zh (by first | exact congrArg PV.bool h2 | rfl) ?_
      refine zx ?_; refine nmx ?_
      refine zb fun K kk hK => ?_
      simp only [go_sem]
      refine hK _ _ fun nx => ?_; clear hK K; try clear kk
      obtain ⟨e0, f0, hh⟩ := ze hh
      obtain ⟨hlen0, f0⟩ := zY f0
      refine qz (wZ (fun s => ∃ aiN, aiN = e0 ∧ ∃ (ZJ : Int) (afW : Bool) (nx : Nat) (g1001 : Nat), s = ⟨[(2, .box 1002 0 0), (12, .list 5 (n_1.Kids.map za.pv)), (13, .int .i64 (n_1.Kids.length : Int)), (14, .int .i64 ZJ), (15, .bool afW)], [(1000, 0, .var 101 [.qW 1000 0, .row 1001 g1001 aiN.length]), (1001, g1001, .bytes 5 aiN), (1002, 0, .var 110 [.fn 57 [.box 1000 0 0, .box 1002 0 0]])], nx⟩))
        (fun i s => False)
        (fun s => False) ?_ ?_ ?_ ?_
      · refine zC ?_
        refine qp fun I hI => ?_
        have key : ∀ (suf pre : List za) (v_8 : Int) (v_9 : (List UInt8)), n_1.Kids = pre ++ suf → v_8 = (pre.length : Int) → wS (wJ kr) suf v_8 v_9 = some e0 → ∀ (nx : Nat) (g1001 : Nat), I ⟨[(2, .box 1002 0 0), (12, .list 5 (n_1.Kids.map za.pv)), (13, .int .i64 (n_1.Kids.length : Int)), (14, .int .i64 v_8)], [(1000, 0, .var 101 [.qW 1000 0, .row 1001 g1001 v_9.length]), (1001, g1001, .bytes 5 v_9), (1002, 0, .var 110 [.fn 57 [.box 1000 0 0, .box 1002 0 0]])], nx⟩ := by
          intro suf
          induction suf with
          | nil =>
            intro pre v_8 v_9 hsplit hidx hh nx g1001
            rw [wS] at hh
            refine hI _ ?_
            have h10 := walk_nil hsplit hidx
            refine zb fun K kk hK => ?_
            simp only [go_sem]
            refine hK _ _ fun nx => ?_; clear hK K; try clear kk
            refine zk ?_
            refine zh (by first | exact congrArg PV.bool h10 | rfl) ?_
            refine qa ?_; refine nmx ?_
            refine kF ?_
            refine zH ?_
            refine ⟨_, (Option.some.inj hh), ?_⟩
            first | exact ⟨_, _, _, _, rfl⟩ | (simp only [pvE, lsE, zn]; exact ⟨_, _, _, _, rfl⟩) | (simp only [pvE, lsE, zn, h10, h2]; exact ⟨_, _, _, _, rfl⟩)
          | cons ajQ suf ih =>
            intro pre v_8 v_9 hsplit hidx hh nx g1001
            rw [wS] at hh
            refine hI _ ?_
            obtain ⟨hl0a, hl0b, hl0d, hl0w, h10⟩ := qF (f := za.pv) hsplit hidx hlen0
            refine zb fun K kk hK => ?_
            simp only [go_sem]
            refine hK _ _ fun nx => ?_; clear hK K; try clear kk
            refine zk ?_
            refine zm (by first | exact congrArg PV.bool h10 | rfl) ?_
            refine zx ?_; refine nmx ?_
            refine zk ?_
            refine zC ?_
            refine zb fun K kk hK => ?_
            simp only [go_sem, hl0a, hl0b, hl0d, hl0w]
            refine hK _ _ fun nx => ?_; clear hK K; try clear kk
            obtain ⟨aoJ, h11, hh⟩ := ze hh
            refine zq fun K kk hK => ?_
            simp only [go_sem, hl0a, hl0b, hl0d, hl0w]
            refine jb [1000, 1001, 1002] (by decide) (ih_node_Words_1_x _ _ _ h11) (by (try simp only [go_sem, hl0a, hl0b, hl0d, hl0w, h10, h2]) <;> exact wkb) (by rfl) ?_
            simp only [go_sem, hl0a, hl0b, hl0d, hl0w]
            refine hK _ _ fun nx => ?_; clear hK K; try clear kk
            refine nmx ?_
            refine zq fun K kk hK => ?_
            simp only [go_sem, hl0a, hl0b, hl0d, hl0w]
            refine hK _ _ fun nx => ?_; clear hK K; try clear kk
            refine nmx ?_
            have ih' := ih (pre ++ [ajQ]) (v_8 + 1) _ (by rw [hsplit]; simp) (by simp [hidx]) hh nx
            refine zH ?_
            first | exact ih' _ | (simp only [pvE, lsE, zn] at ih' ⊢; exact ih' _) | (simp only [pvE, lsE, zn, h10, h2] at ih' ⊢; exact ih' _)
        exact key n_1.Kids [] _ _ rfl rfl f0 _ _
      · rintro s ⟨t, hless, aiN, rfl, ZJ, afW, nx, g1001, rfl⟩
        try dsimp only at hh
        refine nmy ?_
        first | (refine wu hless ?_; try refine ko ?_) | refine qG hless ?_ | refine qI hless ?_
        obtain hR := Option.some.inj hh
        subst hR
        refine Xd ?_
        refine kH ?_ (by rfl) ?_
        · simp only [go_sem, wo, jo, wX, kS, yC, List.map_cons, List.map_append, List.head?_cons, h2]
          all_goals exact wkw
        · (try simp only [go_sem, h2]); (try simp only [List.length_append, List.map_append]); all_goals exact wkb
      · intro i s h; exact h.elim
      · intro s h; exact h.elim
theorem aa0 (n_1 : za) (l_2 : (List UInt8)) (R : (List UInt8)) (hh : xX n_1 l_2 = some R) : BC Tryd.prog 57 [.agg [.str n_1.Kind, .str n_1.Text, .list 1 (n_1.Marks.map PV.str), .list 2 (n_1.zu.map zg.pv), .list 5 (n_1.Kids.map za.pv)], .box 1000 0 0, .box 1002 0 0] [.var 101 [.qW 1000 0, .row 1001 0 l_2.length], .bytes 5 l_2, .var 110 [.fn 57 [.box 1000 0 0, .box 1002 0 0]]] (.tup []) [.var 101 [.qW 1000 0, .row 1001 0 R.length], .Wq 5 R, .var 110 [.fn 57 [.box 1000 0 0, .box 1002 0 0]]] := by
 rw [xX] at hh
 obtain ⟨kr, hh⟩ := xQ hh
 exact (aaN kr) _ _ _ hh
theorem Y5 (n_1 : za) (R : Str) (hh : Zi n_1 = some R) : PC Tryd.prog 28 [.agg [.str n_1.Kind, .str n_1.Text, .list 1 (n_1.Marks.map PV.str), .list 2 (n_1.zu.map zg.pv), .list 5 (n_1.Kids.map za.pv)]] (.str R) := by
  rw [Zi] at hh
  refine adr rfl ?_
  refine zb fun K kk hK => ?_
  simp only [go_sem]
  refine hK _ _ fun nx => ?_; clear hK K; try clear kk
  refine zb fun K kk hK => ?_
  simp only [go_sem]
  refine hK _ _ fun nx => ?_; clear hK K; try clear kk
  refine zb fun K kk hK => ?_
  simp only [go_sem]
  refine hK _ _ fun nx => ?_; clear hK K; try clear kk
  refine zb fun K kk hK => ?_
  simp only [go_sem]
  refine hK _ _ fun nx => ?_; clear hK K; try clear kk
  obtain ⟨l_2, h1, hh⟩ := ze hh
  refine zb fun K kk hK => ?_
  simp only [go_sem]
  refine jb [3, 322, 4] (by decide) (aa0 _ _ _ h1) (by (try simp only [go_sem]) <;> exact wkb) (by rfl) ?_
  simp only [go_sem]
  refine hK _ _ fun nx => ?_; clear hK K; try clear kk
  obtain ⟨⟨r_3, l_4⟩, h2, hh⟩ := ze hh
  dsimp only at hh
  refine zb fun K kk hK => ?_
  simp only [go_sem]
  refine jb [3, 322] (by decide) (WX _ _ h2) (by (try simp only [go_sem]) <;> exact wkb) (by rfl) ?_
  simp only [go_sem]
  refine hK _ _ fun nx => ?_; clear hK K; try clear kk
  refine zi ?_; refine nmx ?_
  obtain hR := Option.some.inj hh
  subst hR
  exact zy
theorem KY (l_1 : (List zt)) (xz : Int) (JS : Int) (R : Bool) (hh : vV l_1 xz JS = some R) : PC Tryd.prog 5 [.list 4 (l_1.map zt.pv), .int .i64 xz, .int .i64 JS] (.bool R) := by
  rw [vV] at hh
  refine Wn rfl ?_
  refine zb fun K kk hK => ?_
  simp only [go_sem]
  refine hK _ _ fun nx => ?_; clear hK K; try clear kk
  obtain ⟨ai4, h1, hh⟩ := ze hh
  refine zb fun K kk hK => ?_
  simp only [go_sem]
  refine zf (JX _ h1) (by (try simp only [go_sem]) <;> exact wkl) (by rfl) (by rfl) ?_
  simp only [go_sem]
  refine hK _ _ fun nx => ?_; clear hK K; try clear kk
  refine zk ?_
  refine zb fun K kk hK => ?_
  simp only [go_sem]
  refine hK _ _ fun nx => ?_; clear hK K; try clear kk
  by_cases h2 : (!ai4) = true
  · rw [if_pos h2] at hh
    refine zm (by first | exact congrArg PV.bool h2 | rfl) ?_
    refine zb fun K kk hK => ?_
    simp only [go_sem]
    refine hK _ _ fun nx => ?_; clear hK K; try clear kk
    refine zi ?_; refine nmx ?_
    obtain hR := Option.some.inj hh
    subst hR
    exact zy
  · rw [if_neg h2] at hh
    replace h2 := Bool.eq_false_iff.mpr h2
    refine zh (by first | exact congrArg PV.bool h2 | rfl) ?_
    refine zx ?_; refine nmx ?_
    obtain ⟨aar, h3, hh⟩ := ze hh
    refine zb fun K kk hK => ?_
    simp only [go_sem]
    refine zf (Yt _ _ h3) (by (try simp only [go_sem]) <;> exact wkl) (by rfl) (by rfl) ?_
    simp only [go_sem]
    refine hK _ _ fun nx => ?_; clear hK K; try clear kk
    obtain ⟨amq, h4, hh⟩ := ze hh
    obtain ⟨qM, h5, hh⟩ := ze hh
    refine zb fun K kk hK => ?_
    simp only [go_sem]
    refine zf (xx _ _ h4) (by (try simp only [go_sem]) <;> exact wkl) (by rfl) (by rfl) ?_
    simp only [go_sem]
    refine zf (qZ _ _ _ h5) (by (try simp only [go_sem]) <;> exact wkl) (by rfl) (by rfl) ?_
    simp only [go_sem]
    refine hK _ _ fun nx => ?_; clear hK K; try clear kk
    obtain ⟨am2, h6, hh⟩ := ze hh
    obtain ⟨qO, h7, hh⟩ := ze hh
    refine zb fun K kk hK => ?_
    simp only [go_sem]
    refine zf (xx _ _ h6) (by (try simp only [go_sem]) <;> exact wkl) (by rfl) (by rfl) ?_
    simp only [go_sem]
    refine zf (qZ _ _ _ h7) (by (try simp only [go_sem]) <;> exact wkl) (by rfl) (by rfl) ?_
    simp only [go_sem]
    refine hK _ _ fun nx => ?_; clear hK K; try clear kk
    refine zb fun K kk hK => ?_
    simp only [go_sem]
    refine hK _ _ fun nx => ?_; clear hK K; try clear kk
    refine zb fun K kk hK => ?_
    simp only [go_sem]
    refine hK _ _ fun nx => ?_; clear hK K; try clear kk
    refine zb fun K kk hK => ?_
    simp only [go_sem]
    refine hK _ _ fun nx => ?_; clear hK K; try clear kk
    obtain ⟨⟨V8, abU⟩, h8, hh⟩ := ze hh
    dsimp only at hh
    refine zb fun K kk hK => ?_
    simp only [go_sem]
    refine zf (QR _ _ _ h8) (by (try simp only [go_sem]) <;> exact wkl) (by rfl) (by rfl) ?_
    simp only [go_sem]
    refine hK _ _ fun nx => ?_; clear hK K; try clear kk
    obtain ⟨⟨aek, Xp⟩, h9, hh⟩ := ze hh
    dsimp only at hh
    refine zb fun K kk hK => ?_
    simp only [go_sem]
    refine zf (K9 _ _ _ h9) (by (try simp only [go_sem]) <;> exact wkl) (by rfl) (by rfl) ?_
    simp only [go_sem]
    refine hK _ _ fun nx => ?_; clear hK K; try clear kk
    obtain ⟨⟨aei, asD⟩, h10, hh⟩ := ze hh
    dsimp only at hh
    refine zb fun K kk hK => ?_
    simp only [go_sem]
    refine zf (K9 _ _ _ h10) (by (try simp only [go_sem]) <;> exact wkl) (by rfl) (by rfl) ?_
    simp only [go_sem]
    refine hK _ _ fun nx => ?_; clear hK K; try clear kk
    obtain ⟨⟨ata, alX⟩, h11, hh⟩ := ze hh
    dsimp only at hh
    refine zb fun K kk hK => ?_
    simp only [go_sem]
    refine zf (QR _ _ _ h11) (by (try simp only [go_sem]) <;> exact wkl) (by rfl) (by rfl) ?_
    simp only [go_sem]
    refine hK _ _ fun nx => ?_; clear hK K; try clear kk
    obtain ⟨⟨apD, asg⟩, h12, hh⟩ := ze hh
    dsimp only at hh
    refine zb fun K kk hK => ?_
    simp only [go_sem]
    refine zf (K9 _ _ _ h12) (by (try simp only [go_sem]) <;> exact wkl) (by rfl) (by rfl) ?_
    simp only [go_sem]
    refine hK _ _ fun nx => ?_; clear hK K; try clear kk
    obtain ⟨⟨asT, arY⟩, h13, hh⟩ := ze hh
    dsimp only at hh
    refine zb fun K kk hK => ?_
    simp only [go_sem]
    refine zf (K9 _ _ _ h13) (by (try simp only [go_sem]) <;> exact wkl) (by rfl) (by rfl) ?_
    simp only [go_sem]
    refine hK _ _ fun nx => ?_; clear hK K; try clear kk
    by_cases h14 : (abU == (0 : Int)) = true
    · rw [if_pos h14] at hh
      by_cases h15 : (Xp == (0 : Int)) = true
      · rw [if_pos h15] at hh
        by_cases h16 : (asD == (0 : Int)) = true
        · rw [if_pos h16] at hh
          by_cases h17 : (alX == (0 : Int)) = true
          · rw [if_pos h17] at hh
            by_cases h18 : (asg == (0 : Int)) = true
            · rw [if_pos h18] at hh
              by_cases h19 : (arY == (0 : Int)) = true
              · rw [if_pos h19] at hh
                obtain ⟨aiF, h20, hh⟩ := ze hh
                by_cases h21 : (aiF) = true
                · rw [if_pos h21] at hh
                  obtain ⟨aja, h22, hh⟩ := ze hh
                  by_cases h23 : (aja) = true
                  · rw [if_pos h23] at hh
                    obtain ⟨aiS, h24, hh⟩ := ze hh
                    by_cases h25 : (aiS) = true
                    · rw [if_pos h25] at hh
                      obtain ⟨akA, h26, hh⟩ := ze hh
                      obtain ⟨ajE, h27, hh⟩ := ze hh
                      refine zb fun K kk hK => ?_
                      simp only [go_sem, h14, h15, h16, h17, h18, h19, h21, h23, h25]
                      (repeat refine sd ?_)
                      refine zf (vU _ _ _ h20) (by (try simp only [go_sem, h14, h15, h16, h17, h18, h19, h21, h23, h25]) <;> exact wkl) (by rfl) (by rfl) ?_
                      simp only [go_sem, h14, h15, h16, h17, h18, h19, h21, h23, h25]
                      (repeat refine sd ?_)
                      refine zf (vU _ _ _ h22) (by (try simp only [go_sem, h14, h15, h16, h17, h18, h19, h21, h23, h25]) <;> exact wkl) (by rfl) (by rfl) ?_
                      simp only [go_sem, h14, h15, h16, h17, h18, h19, h21, h23, h25]
                      (repeat refine sd ?_)
                      refine zf (vU _ _ _ h24) (by (try simp only [go_sem, h14, h15, h16, h17, h18, h19, h21, h23, h25]) <;> exact wkl) (by rfl) (by rfl) ?_
                      simp only [go_sem, h14, h15, h16, h17, h18, h19, h21, h23, h25]
                      (repeat refine sd ?_)
                      refine zf (Y5 _ _ h26) (by (try simp only [go_sem, h14, h15, h16, h17, h18, h19, h21, h23, h25]) <;> exact wkl) (by rfl) (by rfl) ?_
                      simp only [go_sem, h14, h15, h16, h17, h18, h19, h21, h23, h25]
                      (repeat refine sd ?_)
                      refine zf (Y5 _ _ h27) (by (try simp only [go_sem, h14, h15, h16, h17, h18, h19, h21, h23, h25]) <;> exact wkl) (by rfl) (by rfl) ?_
                      simp only [go_sem, h14, h15, h16, h17, h18, h19, h21, h23, h25]
                      (repeat refine sd ?_)
                      refine hK _ _ fun nx => ?_; clear hK K; try clear kk
                      refine zi ?_; refine nmx ?_
                      obtain hR := Option.some.inj hh
                      subst hR
                      exact zy
                    · rw [if_neg h25] at hh
                      replace h25 := Bool.eq_false_iff.mpr h25
                      refine zb fun K kk hK => ?_
                      simp only [go_sem, h14, h15, h16, h17, h18, h19, h21, h23, h25]
                      (repeat refine sd ?_)
                      refine zf (vU _ _ _ h20) (by (try simp only [go_sem, h14, h15, h16, h17, h18, h19, h21, h23, h25]) <;> exact wkl) (by rfl) (by rfl) ?_
                      simp only [go_sem, h14, h15, h16, h17, h18, h19, h21, h23, h25]
                      (repeat refine sd ?_)
                      refine zf (vU _ _ _ h22) (by (try simp only [go_sem, h14, h15, h16, h17, h18, h19, h21, h23, h25]) <;> exact wkl) (by rfl) (by rfl) ?_
                      simp only [go_sem, h14, h15, h16, h17, h18, h19, h21, h23, h25]
                      (repeat refine sd ?_)
                      refine zf (vU _ _ _ h24) (by (try simp only [go_sem, h14, h15, h16, h17, h18, h19, h21, h23, h25]) <;> exact wkl) (by rfl) (by rfl) ?_
                      simp only [go_sem, h14, h15, h16, h17, h18, h19, h21, h23, h25]
                      (repeat refine sd ?_)
                      refine hK _ _ fun nx => ?_; clear hK K; try clear kk
                      refine zi ?_; refine nmx ?_
                      obtain hR := Option.some.inj hh
                      subst hR
                      exact zy
                  · rw [if_neg h23] at hh
                    replace h23 := Bool.eq_false_iff.mpr h23
                    refine zb fun K kk hK => ?_
                    simp only [go_sem, h14, h15, h16, h17, h18, h19, h21, h23]
                    (repeat refine sd ?_)
                    refine zf (vU _ _ _ h20) (by (try simp only [go_sem, h14, h15, h16, h17, h18, h19, h21, h23]) <;> exact wkl) (by rfl) (by rfl) ?_
                    simp only [go_sem, h14, h15, h16, h17, h18, h19, h21, h23]
                    (repeat refine sd ?_)
                    refine zf (vU _ _ _ h22) (by (try simp only [go_sem, h14, h15, h16, h17, h18, h19, h21, h23]) <;> exact wkl) (by rfl) (by rfl) ?_
                    simp only [go_sem, h14, h15, h16, h17, h18, h19, h21, h23]
                    (repeat refine sd ?_)
                    refine hK _ _ fun nx => ?_; clear hK K; try clear kk
                    refine zi ?_; refine nmx ?_
                    obtain hR := Option.some.inj hh
                    subst hR
                    exact zy
                · rw [if_neg h21] at hh
                  replace h21 := Bool.eq_false_iff.mpr h21
                  refine zb fun K kk hK => ?_
                  simp only [go_sem, h14, h15, h16, h17, h18, h19, h21]
                  (repeat refine sd ?_)
                  refine zf (vU _ _ _ h20) (by (try simp only [go_sem, h14, h15, h16, h17, h18, h19, h21]) <;> exact wkl) (by rfl) (by rfl) ?_
                  simp only [go_sem, h14, h15, h16, h17, h18, h19, h21]
                  (repeat refine sd ?_)
                  refine hK _ _ fun nx => ?_; clear hK K; try clear kk
                  refine zi ?_; refine nmx ?_
                  obtain hR := Option.some.inj hh
                  subst hR
                  exact zy
              · rw [if_neg h19] at hh
                replace h19 := Bool.eq_false_iff.mpr h19
                refine zb fun K kk hK => ?_
                simp only [go_sem, h14, h15, h16, h17, h18, h19]
                (repeat refine sd ?_)
                refine hK _ _ fun nx => ?_; clear hK K; try clear kk
                refine zi ?_; refine nmx ?_
                obtain hR := Option.some.inj hh
                subst hR
                exact zy
            · rw [if_neg h18] at hh
              replace h18 := Bool.eq_false_iff.mpr h18
              refine zb fun K kk hK => ?_
              simp only [go_sem, h14, h15, h16, h17, h18]
              (repeat refine sd ?_)
              refine hK _ _ fun nx => ?_; clear hK K; try clear kk
              refine zi ?_; refine nmx ?_
              obtain hR := Option.some.inj hh
              subst hR
              exact zy
          · rw [if_neg h17] at hh
            replace h17 := Bool.eq_false_iff.mpr h17
            refine zb fun K kk hK => ?_
            simp only [go_sem, h14, h15, h16, h17]
            (repeat refine sd ?_)
            refine hK _ _ fun nx => ?_; clear hK K; try clear kk
            refine zi ?_; refine nmx ?_
            obtain hR := Option.some.inj hh
            subst hR
            exact zy
        · rw [if_neg h16] at hh
          replace h16 := Bool.eq_false_iff.mpr h16
          refine zb fun K kk hK => ?_
          simp only [go_sem, h14, h15, h16]
          (repeat refine sd ?_)
          refine hK _ _ fun nx => ?_; clear hK K; try clear kk
          refine zi ?_; refine nmx ?_
          obtain hR := Option.some.inj hh
          subst hR
          exact zy
      · rw [if_neg h15] at hh
        replace h15 := Bool.eq_false_iff.mpr h15
        refine zb fun K kk hK => ?_
        simp only [go_sem, h14, h15]
        (repeat refine sd ?_)
        refine hK _ _ fun nx => ?_; clear hK K; try clear kk
        refine zi ?_; refine nmx ?_
        obtain hR := Option.some.inj hh
        subst hR
        exact zy
    · rw [if_neg h14] at hh
      replace h14 := Bool.eq_false_iff.mpr h14
      refine zb fun K kk hK => ?_
      simp only [go_sem, h14]
      (repeat refine sd ?_)
      refine hK _ _ fun nx => ?_; clear hK K; try clear kk
      refine zi ?_; refine nmx ?_
      obtain hR := Option.some.inj hh
      subst hR
      exact zy
end Go.Proofs.YtclohbgnaopjfaaDoor
