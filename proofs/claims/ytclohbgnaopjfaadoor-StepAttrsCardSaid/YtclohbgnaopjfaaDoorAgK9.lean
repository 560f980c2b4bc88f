/- Texts of the proof of stepAttrsCard -/
import Derived.Test.YtclohbgnaopjfaaDoorAgC
import Derived.Test.YtclohbgnaopjfaaDoorAgF
import Derived.Test.YtclohbgnaopjfaaDoorAgK0
import Derived.Test.YtclohbgnaopjfaaDoorAgK5
import Derived.Test.YtclohbgnaopjfaaDoorAgK6
import Derived.Test.YtclohbgnaopjfaaDoorAgK8
namespace Go.Proofs.YtclohbgnaopjfaaDoor
set_option linter.unusedSimpArgs false
set_option linter.unusedVariables false
open Go
set_option maxRecDepth 100000
theorem abe : ∀ kr : Nat, (∀ (n_1 : za) (l_2 : (List UInt8)) (R : (List UInt8)), wM kr n_1 l_2 = some R → BC Tryd.prog 57 [.agg [.str n_1.Kind, .str n_1.Text, .list 1 (n_1.Marks.map PV.str), .list 2 (n_1.zt.map zf.pv), .list 5 (n_1.Kids.map za.pv)], .box 1000 0 0, .box 1002 0 0] [.var 101 [.qY 1000 0, .row 1001 0 l_2.length], .bytes 5 l_2, .var 110 [.fn 57 [.box 1000 0 0, .box 1002 0 0]]] (.tup []) [.var 101 [.qY 1000 0, .row 1001 0 R.length], .WH 5 R, .var 110 [.fn 57 [.box 1000 0 0, .box 1002 0 0]]]) := by
  intro kr
  induction kr with
  | zero => exact (by intro n_1 l_2 R hh; rw [wM] at hh; cases hh)
  | succ kr ih =>
    have ih_node_Words_1_x := ih
    clear ih
    intro n_1 l_2 R hh
    rw [wM] at hh
    refine Yp rfl rfl rfl ?_
    refine zb fun K kk hK => ?_
    simp only [go_sem]
    refine hK _ _ fun nx => ?_; clear hK K; try clear kk
    refine zm ?_
    obtain ⟨KI, h1, hh⟩ := ze hh
    refine zb fun K kk hK => ?_
    simp only [go_sem]
    refine zg (wJ _ _ h1) (by (try simp only [go_sem]) <;> exact wkl) (by rfl) (by rfl) ?_
    simp only [go_sem]
    refine hK _ _ fun nx => ?_; clear hK K; try clear kk
    by_cases h2 : (KI) = true
    · rw [if_pos h2] at hh
      refine zk (by first | exact congrArg PV.bool h2 | rfl) ?_
      obtain ⟨⟨r_4, l_5⟩, h3, hh⟩ := ze hh
      dsimp only at hh
      refine zb fun K kk hK => ?_
      simp only [go_sem]
      refine jm [1000, 1001] (by decide) (Z0 _ _ _ h3) (by (try simp only [go_sem, h2]) <;> exact wkb) (by rfl) ?_
      simp only [go_sem]
      refine hK _ _ fun nx => ?_; clear hK K; try clear kk
      refine zi ?_; refine nmx ?_
      obtain hR := Option.some.inj hh
      subst hR
      refine kR ?_ (by rfl) ?_
      · simp only [go_sem, wu, jA, ku, ve, yP, List.map_cons, List.map_append, List.head?_cons, h2]
        all_goals exact wkw
      · (try simp only [go_sem, h2]); (try simp only [List.length_append, List.map_append]); all_goals exact wkb
    · rw [if_neg h2] at hh
      replace h2 := Bool.eq_false_iff.mpr h2
      refine zh (by first | exact congrArg PV.bool h2 | rfl) ?_
      refine zx ?_; refine nmx ?_
      refine zb fun K kk hK => ?_
      simp only [go_sem]
      refine hK _ _ fun nx => ?_; clear hK K; try clear kk
      obtain ⟨e0, f0, hh⟩ := ze hh
      obtain ⟨hlen0, f0⟩ := zZ f0
      refine qy (wS (fun s => ∃ JX, JX = e0 ∧ ∃ (ZV : Int) (agd : Bool) (nx : Nat) (g1001 : Nat), s = ⟨[(2, .box 1002 0 0), (12, .list 5 (n_1.Kids.map za.pv)), (13, .int .i64 (n_1.Kids.length : Int)), (14, .int .i64 ZV), (15, .bool agd)], [(1000, 0, .var 101 [.qY 1000 0, .row 1001 g1001 JX.length]), (1001, g1001, .bytes 5 JX), (1002, 0, .var 110 [.fn 57 [.box 1000 0 0, .box 1002 0 0]])], nx⟩))
        (fun i s => False)
        (fun s => False) ?_ ?_ ?_ ?_
      · refine zD ?_
        refine qi fun I hI => ?_
        have key : ∀ (suf pre : List za) (v_8 : Int) (v_9 : (List UInt8)), n_1.Kids = pre ++ suf → v_8 = (pre.length : Int) → w9 (wM kr) suf v_8 v_9 = some e0 → ∀ (nx : Nat) (g1001 : Nat), I ⟨[(2, .box 1002 0 0), (12, .list 5 (n_1.Kids.map za.pv)), (13, .int .i64 (n_1.Kids.length : Int)), (14, .int .i64 v_8)], [(1000, 0, .var 101 [.qY 1000 0, .row 1001 g1001 v_9.length]), (1001, g1001, .bytes 5 v_9), (1002, 0, .var 110 [.fn 57 [.box 1000 0 0, .box 1002 0 0]])], nx⟩ := by
          intro suf
          induction suf with
          | nil =>
            intro pre v_8 v_9 hsplit hidx hh nx g1001
            rw [w9] at hh
            refine hI _ ?_
            have h10 := walk_nil hsplit hidx
            refine zb fun K kk hK => ?_
            simp only [go_sem]
            refine hK _ _ fun nx => ?_; clear hK K; try clear kk
            refine zm ?_
            refine zh (by first | exact congrArg PV.bool h10 | rfl) ?_
            refine qd ?_; refine nmx ?_
            refine kL ?_
            refine zH ?_
            refine ⟨_, (Option.some.inj hh), ?_⟩
            first | exact ⟨_, _, _, _, rfl⟩ | (simp only [pvE, lsE, zo]; exact ⟨_, _, _, _, rfl⟩) | (simp only [pvE, lsE, zo, h10, h2]; exact ⟨_, _, _, _, rfl⟩)
          | cons akj suf ih =>
            intro pre v_8 v_9 hsplit hidx hh nx g1001
            rw [w9] at hh
            refine hI _ ?_
            obtain ⟨hl0a, hl0b, hl0d, hl0w, h10⟩ := qD (f := za.pv) hsplit hidx hlen0
            refine zb fun K kk hK => ?_
            simp only [go_sem]
            refine hK _ _ fun nx => ?_; clear hK K; try clear kk
            refine zm ?_
            refine zk (by first | exact congrArg PV.bool h10 | rfl) ?_
            refine zx ?_; refine nmx ?_
            refine zm ?_
            refine zD ?_
            refine zb fun K kk hK => ?_
            simp only [go_sem, hl0a, hl0b, hl0d, hl0w]
            refine hK _ _ fun nx => ?_; clear hK K; try clear kk
            obtain ⟨apG, h11, hh⟩ := ze hh
            refine zq fun K kk hK => ?_
            simp only [go_sem, hl0a, hl0b, hl0d, hl0w]
            refine jm [1000, 1001, 1002] (by decide) (ih_node_Words_1_x _ _ _ h11) (by (try simp only [go_sem, hl0a, hl0b, hl0d, hl0w, h10, h2]) <;> exact wkb) (by rfl) ?_
            simp only [go_sem, hl0a, hl0b, hl0d, hl0w]
            refine hK _ _ fun nx => ?_; clear hK K; try clear kk
            refine nmx ?_
            refine zq fun K kk hK => ?_
            simp only [go_sem, hl0a, hl0b, hl0d, hl0w]
            refine hK _ _ fun nx => ?_; clear hK K; try clear kk
            refine nmx ?_
            have ih' := ih (pre ++ [akj]) (v_8 + 1) _ (by rw [hsplit]; simp) (by simp [hidx]) hh nx
            refine zH ?_
            first | exact ih' _ | (simp only [pvE, lsE, zo] at ih' ⊢; exact ih' _) | (simp only [pvE, lsE, zo, h10, h2] at ih' ⊢; exact ih' _)
        exact key n_1.Kids [] _ _ rfl rfl f0 _ _
      · rintro s ⟨t, hless, JX, rfl, ZV, agd, nx, g1001, rfl⟩
        try dsimp only at hh
        refine nmy ?_
        first | (refine wh hless ?_; try refine kg ?_) | refine qF hless ?_ | refine qE hless ?_
        obtain hR := Option.some.inj hh
        subst hR
        refine XI ?_
        refine kR ?_ (by rfl) ?_
        · simp only [go_sem, wu, jA, ku, ve, yP, List.map_cons, List.map_append, List.head?_cons, h2]
          all_goals exact wkw
        · (try simp only [go_sem, h2]); (try simp only [List.length_append, List.map_append]); all_goals exact wkb
      · intro i s h; exact h.elim
      · intro s h; exact h.elim
theorem acy (n_1 : za) (l_2 : (List UInt8)) (R : (List UInt8)) (hh : x9 n_1 l_2 = some R) : BC Tryd.prog 57 [.agg [.str n_1.Kind, .str n_1.Text, .list 1 (n_1.Marks.map PV.str), .list 2 (n_1.zt.map zf.pv), .list 5 (n_1.Kids.map za.pv)], .box 1000 0 0, .box 1002 0 0] [.var 101 [.qY 1000 0, .row 1001 0 l_2.length], .bytes 5 l_2, .var 110 [.fn 57 [.box 1000 0 0, .box 1002 0 0]]] (.tup []) [.var 101 [.qY 1000 0, .row 1001 0 R.length], .WH 5 R, .var 110 [.fn 57 [.box 1000 0 0, .box 1002 0 0]]] := by
 rw [x9] at hh
 obtain ⟨kr, hh⟩ := xV hh
 exact (abe kr) _ _ _ hh
theorem xD (n_1 : za) (R : Str) (hh : Zt n_1 = some R) : PC Tryd.prog 28 [.agg [.str n_1.Kind, .str n_1.Text, .list 1 (n_1.Marks.map PV.str), .list 2 (n_1.zt.map zf.pv), .list 5 (n_1.Kids.map za.pv)]] (.str R) := by
  rw [Zt] at hh
  refine adF rfl ?_
  refine zb fun K kk hK => ?_
  simp only [go_sem]
  refine hK _ _ fun nx => ?_; clear hK K; try clear kk
  refine zb fun K kk hK => ?_
  simp only [go_sem]
  refine hK _ _ fun nx => ?_; clear hK K; try clear kk
  refine zb fun K kk hK => ?_
  simp only [go_sem]
  refine hK _ _ fun nx => ?_; clear hK K; try clear kk
  refine zb fun K kk hK => ?_
  simp only [go_sem]
  refine hK _ _ fun nx => ?_; clear hK K; try clear kk
  obtain ⟨l_2, h1, hh⟩ := ze hh
  refine zb fun K kk hK => ?_
  simp only [go_sem]
  refine jm [3, 322, 4] (by decide) (acy _ _ _ h1) (by (try simp only [go_sem]) <;> exact wkb) (by rfl) ?_
  simp only [go_sem]
  refine hK _ _ fun nx => ?_; clear hK K; try clear kk
  obtain ⟨⟨r_3, l_4⟩, h2, hh⟩ := ze hh
  dsimp only at hh
  refine zb fun K kk hK => ?_
  simp only [go_sem]
  refine jm [3, 322] (by decide) (Kj _ _ h2) (by (try simp only [go_sem]) <;> exact wkb) (by rfl) ?_
  simp only [go_sem]
  refine hK _ _ fun nx => ?_; clear hK K; try clear kk
  refine zi ?_; refine nmx ?_
  obtain hR := Option.some.inj hh
  subst hR
  exact zy
theorem Vi (l_1 : (List zu)) (a_2 : Int) (b_3 : Int) (v_4 : Str) (R : Bool) (hh : jb l_1 a_2 b_3 v_4 = some R) : PC Tryd.prog 9 [.list 4 (l_1.map zu.pv), .int .i64 a_2, .int .i64 b_3, .str v_4] (.bool R) := by
  rw [jb] at hh
  refine WC rfl ?_
  refine zb fun K kk hK => ?_
  simp only [go_sem]
  refine hK _ _ fun nx => ?_; clear hK K; try clear kk
  obtain ⟨YH, h1, hh⟩ := ze hh
  refine zb fun K kk hK => ?_
  simp only [go_sem]
  refine zg (Xi _ h1) (by (try simp only [go_sem]) <;> exact wkl) (by rfl) (by rfl) ?_
  simp only [go_sem]
  refine hK _ _ fun nx => ?_; clear hK K; try clear kk
  refine zm ?_
  by_cases h2 : (!YH) = true
  · rw [if_pos h2] at hh
    refine zb fun K kk hK => ?_
    simp only [go_sem, h2]
    (repeat refine sd ?_)
    refine hK _ _ fun nx => ?_; clear hK K; try clear kk
    refine zk rfl ?_
    refine zb fun K kk hK => ?_
    simp only [go_sem]
    refine hK _ _ fun nx => ?_; clear hK K; try clear kk
    refine zi ?_; refine nmx ?_
    obtain hR := Option.some.inj hh
    subst hR
    exact zy
  · rw [if_neg h2] at hh
    replace h2 := Bool.eq_false_iff.mpr h2
    by_cases h3 : (decide ((v_4.length : Int) > (40 : Int))) = true
    · rw [if_pos h3] at hh
      refine zb fun K kk hK => ?_
      simp only [go_sem, h2, h3, of_decide_eq_true h3]
      (repeat refine sd ?_)
      refine hK _ _ fun nx => ?_; clear hK K; try clear kk
      refine zk rfl ?_
      refine zb fun K kk hK => ?_
      simp only [go_sem]
      refine hK _ _ fun nx => ?_; clear hK K; try clear kk
      refine zi ?_; refine nmx ?_
      obtain hR := Option.some.inj hh
      subst hR
      exact zy
    · rw [if_neg h3] at hh
      replace h3 := Bool.eq_false_iff.mpr h3
      refine zb fun K kk hK => ?_
      simp only [go_sem, h2, h3, of_decide_eq_false h3]
      (repeat refine sd ?_)
      refine hK _ _ fun nx => ?_; clear hK K; try clear kk
      by_cases h4 : (!((zN (runes v_4)) == v_4)) = true
      · rw [if_pos h4] at hh
        refine zk (by first | exact congrArg PV.bool h4 | rfl) ?_
        refine zb fun K kk hK => ?_
        simp only [go_sem]
        refine hK _ _ fun nx => ?_; clear hK K; try clear kk
        refine zi ?_; refine nmx ?_
        obtain hR := Option.some.inj hh
        subst hR
        exact zy
      · rw [if_neg h4] at hh
        replace h4 := Bool.eq_false_iff.mpr h4
        refine zh (by first | exact congrArg PV.bool h4 | rfl) ?_
        refine zx ?_; refine nmx ?_
        obtain ⟨aab, h5, hh⟩ := ze hh
        refine zb fun K kk hK => ?_
        simp only [go_sem]
        refine zg (YL _ _ h5) (by (try simp only [go_sem]) <;> exact wkl) (by rfl) (by rfl) ?_
        simp only [go_sem]
        refine hK _ _ fun nx => ?_; clear hK K; try clear kk
        obtain ⟨abH, h6, hh⟩ := ze hh
        obtain ⟨XH, h7, hh⟩ := ze hh
        refine zb fun K kk hK => ?_
        simp only [go_sem]
        refine zg (jS _ _ h6) (by (try simp only [go_sem]) <;> exact wkl) (by rfl) (by rfl) ?_
        simp only [go_sem]
        refine zg (qZ _ _ _ h7) (by (try simp only [go_sem]) <;> exact wkl) (by rfl) (by rfl) ?_
        simp only [go_sem]
        refine hK _ _ fun nx => ?_; clear hK K; try clear kk
        obtain ⟨anO, h8, hh⟩ := ze hh
        obtain ⟨afc, h9, hh⟩ := ze hh
        refine zb fun K kk hK => ?_
        simp only [go_sem]
        refine zg (jS _ _ h8) (by (try simp only [go_sem]) <;> exact wkl) (by rfl) (by rfl) ?_
        simp only [go_sem]
        refine zg (qZ _ _ _ h9) (by (try simp only [go_sem]) <;> exact wkl) (by rfl) (by rfl) ?_
        simp only [go_sem]
        refine hK _ _ fun nx => ?_; clear hK K; try clear kk
        refine zb fun K kk hK => ?_
        simp only [go_sem]
        refine hK _ _ fun nx => ?_; clear hK K; try clear kk
        refine zb fun K kk hK => ?_
        simp only [go_sem]
        refine hK _ _ fun nx => ?_; clear hK K; try clear kk
        obtain ⟨⟨VI, Ke⟩, h10, hh⟩ := ze hh
        dsimp only at hh
        refine zb fun K kk hK => ?_
        simp only [go_sem]
        refine zg (xH _ _ _ h10) (by (try simp only [go_sem]) <;> exact wkl) (by rfl) (by rfl) ?_
        simp only [go_sem]
        refine hK _ _ fun nx => ?_; clear hK K; try clear kk
        obtain ⟨⟨Kl, aeO⟩, h11, hh⟩ := ze hh
        dsimp only at hh
        refine zb fun K kk hK => ?_
        simp only [go_sem]
        refine zg (ai3 _ _ _ h11) (by (try simp only [go_sem]) <;> exact wkl) (by rfl) (by rfl) ?_
        simp only [go_sem]
        refine hK _ _ fun nx => ?_; clear hK K; try clear kk
        refine zm ?_
        refine zb fun K kk hK => ?_
        simp only [go_sem]
        refine hK _ _ fun nx => ?_; clear hK K; try clear kk
        by_cases h12 : (Ke != (0 : Int)) = true
        · rw [if_pos h12] at hh
          refine zk (by first | exact congrArg PV.bool h12 | rfl) ?_
          refine zb fun K kk hK => ?_
          simp only [go_sem]
          refine hK _ _ fun nx => ?_; clear hK K; try clear kk
          refine zi ?_; refine nmx ?_
          obtain hR := Option.some.inj hh
          subst hR
          exact zy
        · rw [if_neg h12] at hh
          replace h12 := Bool.eq_false_iff.mpr h12
          refine zh (by first | exact congrArg PV.bool h12 | rfl) ?_
          refine zx ?_; refine nmx ?_
          obtain ⟨⟨aul, atw⟩, h13, hh⟩ := ze hh
          dsimp only at hh
          refine zb fun K kk hK => ?_
          simp only [go_sem]
          refine zg (X3 _ _ _ h13) (by (try simp only [go_sem]) <;> exact wkl) (by rfl) (by rfl) ?_
          simp only [go_sem]
          refine hK _ _ fun nx => ?_; clear hK K; try clear kk
          obtain ⟨⟨aoB, aqm⟩, h14, hh⟩ := ze hh
          dsimp only at hh
          refine zb fun K kk hK => ?_
          simp only [go_sem]
          refine zg (xH _ _ _ h14) (by (try simp only [go_sem]) <;> exact wkl) (by rfl) (by rfl) ?_
          simp only [go_sem]
          refine hK _ _ fun nx => ?_; clear hK K; try clear kk
          refine zm ?_
          by_cases h15 : (atw != (0 : Int)) = true
          · rw [if_pos h15] at hh
            refine zb fun K kk hK => ?_
            simp only [go_sem, h15]
            (repeat refine sd ?_)
            refine hK _ _ fun nx => ?_; clear hK K; try clear kk
            refine zk rfl ?_
            refine zb fun K kk hK => ?_
            simp only [go_sem]
            refine hK _ _ fun nx => ?_; clear hK K; try clear kk
            refine zi ?_; refine nmx ?_
            obtain hR := Option.some.inj hh
            subst hR
            exact zy
          · rw [if_neg h15] at hh
            replace h15 := Bool.eq_false_iff.mpr h15
            by_cases h16 : (aqm != (0 : Int)) = true
            · rw [if_pos h16] at hh
              refine zb fun K kk hK => ?_
              simp only [go_sem, h15, h16]
              (repeat refine sd ?_)
              refine hK _ _ fun nx => ?_; clear hK K; try clear kk
              refine zk rfl ?_
              refine zb fun K kk hK => ?_
              simp only [go_sem]
              refine hK _ _ fun nx => ?_; clear hK K; try clear kk
              refine zi ?_; refine nmx ?_
              obtain hR := Option.some.inj hh
              subst hR
              exact zy
            · rw [if_neg h16] at hh
              replace h16 := Bool.eq_false_iff.mpr h16
              obtain ⟨ai7, h17, hh⟩ := ze hh
              by_cases h18 : (!ai7) = true
              · rw [if_pos h18] at hh
                refine zb fun K kk hK => ?_
                simp only [go_sem, h15, h16, h18]
                (repeat refine sd ?_)
                refine zg (vC _ _ _ h17) (by (try simp only [go_sem, h15, h16, h18]) <;> exact wkl) (by rfl) (by rfl) ?_
                simp only [go_sem, h15, h16, h18]
                (repeat refine sd ?_)
                refine hK _ _ fun nx => ?_; clear hK K; try clear kk
                refine zk rfl ?_
                refine zb fun K kk hK => ?_
                simp only [go_sem]
                refine hK _ _ fun nx => ?_; clear hK K; try clear kk
                refine zi ?_; refine nmx ?_
                obtain hR := Option.some.inj hh
                subst hR
                exact zy
              · rw [if_neg h18] at hh
                replace h18 := Bool.eq_false_iff.mpr h18
                obtain ⟨ajG, h19, hh⟩ := ze hh
                by_cases h20 : (!ajG) = true
                · rw [if_pos h20] at hh
                  refine zb fun K kk hK => ?_
                  simp only [go_sem, h15, h16, h18, h20]
                  (repeat refine sd ?_)
                  refine zg (vC _ _ _ h17) (by (try simp only [go_sem, h15, h16, h18, h20]) <;> exact wkl) (by rfl) (by rfl) ?_
                  simp only [go_sem, h15, h16, h18, h20]
                  (repeat refine sd ?_)
                  refine zg (vC _ _ _ h19) (by (try simp only [go_sem, h15, h16, h18, h20]) <;> exact wkl) (by rfl) (by rfl) ?_
                  simp only [go_sem, h15, h16, h18, h20]
                  (repeat refine sd ?_)
                  refine hK _ _ fun nx => ?_; clear hK K; try clear kk
                  refine zk rfl ?_
                  refine zb fun K kk hK => ?_
                  simp only [go_sem]
                  refine hK _ _ fun nx => ?_; clear hK K; try clear kk
                  refine zi ?_; refine nmx ?_
                  obtain hR := Option.some.inj hh
                  subst hR
                  exact zy
                · rw [if_neg h20] at hh
                  replace h20 := Bool.eq_false_iff.mpr h20
                  obtain ⟨afo, h21, hh⟩ := ze hh
                  obtain ⟨ahb, h22, hh⟩ := ze hh
                  by_cases h23 : (!(afo == ahb)) = true
                  · rw [if_pos h23] at hh
                    refine zb fun K kk hK => ?_
                    simp only [go_sem, h15, h16, h18, h20, h23]
                    (repeat refine sd ?_)
                    refine zg (vC _ _ _ h17) (by (try simp only [go_sem, h15, h16, h18, h20, h23]) <;> exact wkl) (by rfl) (by rfl) ?_
                    simp only [go_sem, h15, h16, h18, h20, h23]
                    (repeat refine sd ?_)
                    refine zg (vC _ _ _ h19) (by (try simp only [go_sem, h15, h16, h18, h20, h23]) <;> exact wkl) (by rfl) (by rfl) ?_
                    simp only [go_sem, h15, h16, h18, h20, h23]
                    (repeat refine sd ?_)
                    refine zg (xD _ _ h21) (by (try simp only [go_sem, h15, h16, h18, h20, h23]) <;> exact wkl) (by rfl) (by rfl) ?_
                    simp only [go_sem, h15, h16, h18, h20, h23]
                    (repeat refine sd ?_)
                    refine zg (xD _ _ h22) (by (try simp only [go_sem, h15, h16, h18, h20, h23]) <;> exact wkl) (by rfl) (by rfl) ?_
                    simp only [go_sem, h15, h16, h18, h20, h23]
                    (repeat refine sd ?_)
                    refine hK _ _ fun nx => ?_; clear hK K; try clear kk
                    refine zk rfl ?_
                    refine zb fun K kk hK => ?_
                    simp only [go_sem]
                    refine hK _ _ fun nx => ?_; clear hK K; try clear kk
                    refine zi ?_; refine nmx ?_
                    obtain hR := Option.some.inj hh
                    subst hR
                    exact zy
                  · rw [if_neg h23] at hh
                    replace h23 := Bool.eq_false_iff.mpr h23
                    by_cases h24 : ((Kl.length : Int) != (1 : Int)) = true
                    · rw [if_pos h24] at hh
                      refine zb fun K kk hK => ?_
                      simp only [go_sem, h15, h16, h18, h20, h23, h24]
                      (repeat refine sd ?_)
                      refine zg (vC _ _ _ h17) (by (try simp only [go_sem, h15, h16, h18, h20, h23, h24]) <;> exact wkl) (by rfl) (by rfl) ?_
                      simp only [go_sem, h15, h16, h18, h20, h23, h24]
                      (repeat refine sd ?_)
                      refine zg (vC _ _ _ h19) (by (try simp only [go_sem, h15, h16, h18, h20, h23, h24]) <;> exact wkl) (by rfl) (by rfl) ?_
                      simp only [go_sem, h15, h16, h18, h20, h23, h24]
                      (repeat refine sd ?_)
                      refine zg (xD _ _ h21) (by (try simp only [go_sem, h15, h16, h18, h20, h23, h24]) <;> exact wkl) (by rfl) (by rfl) ?_
                      simp only [go_sem, h15, h16, h18, h20, h23, h24]
                      (repeat refine sd ?_)
                      refine zg (xD _ _ h22) (by (try simp only [go_sem, h15, h16, h18, h20, h23, h24]) <;> exact wkl) (by rfl) (by rfl) ?_
                      simp only [go_sem, h15, h16, h18, h20, h23, h24]
                      (repeat refine sd ?_)
                      refine hK _ _ fun nx => ?_; clear hK K; try clear kk
                      refine zk rfl ?_
                      refine zb fun K kk hK => ?_
                      simp only [go_sem]
                      refine hK _ _ fun nx => ?_; clear hK K; try clear kk
                      refine zi ?_; refine nmx ?_
                      obtain hR := Option.some.inj hh
                      subst hR
                      exact zy
                    · rw [if_neg h24] at hh
                      replace h24 := Bool.eq_false_iff.mpr h24
                      obtain ⟨atZ, h25, hh⟩ := ze hh
                      obtain ⟨h25a, h25b, h25c⟩ := rd_some h25
                      have h25d := kZ (f := zz.pv) h25c
                      have h25f := wO (f := zz.pv) h25c
                      try simp only [Int.toNat_natCast, Int.reduceToNat] at h25d h25f
                      refine zb fun K kk hK => ?_
                      simp only [go_sem, h15, h16, h18, h20, h23, h24, h25a, h25b, h25d, h25f.1, h25f.2]
                      (repeat refine sd ?_)
                      refine zg (vC _ _ _ h17) (by (try simp only [go_sem, h15, h16, h18, h20, h23, h24, h25a, h25b, h25d, h25f.1, h25f.2]) <;> exact wkl) (by rfl) (by rfl) ?_
                      simp only [go_sem, h15, h16, h18, h20, h23, h24, h25a, h25b, h25d, h25f.1, h25f.2]
                      (repeat refine sd ?_)
                      refine zg (vC _ _ _ h19) (by (try simp only [go_sem, h15, h16, h18, h20, h23, h24, h25a, h25b, h25d, h25f.1, h25f.2]) <;> exact wkl) (by rfl) (by rfl) ?_
                      simp only [go_sem, h15, h16, h18, h20, h23, h24, h25a, h25b, h25d, h25f.1, h25f.2]
                      (repeat refine sd ?_)
                      refine zg (xD _ _ h21) (by (try simp only [go_sem, h15, h16, h18, h20, h23, h24, h25a, h25b, h25d, h25f.1, h25f.2]) <;> exact wkl) (by rfl) (by rfl) ?_
                      simp only [go_sem, h15, h16, h18, h20, h23, h24, h25a, h25b, h25d, h25f.1, h25f.2]
                      (repeat refine sd ?_)
                      refine zg (xD _ _ h22) (by (try simp only [go_sem, h15, h16, h18, h20, h23, h24, h25a, h25b, h25d, h25f.1, h25f.2]) <;> exact wkl) (by rfl) (by rfl) ?_
                      simp only [go_sem, h15, h16, h18, h20, h23, h24, h25a, h25b, h25d, h25f.1, h25f.2]
                      (repeat refine sd ?_)
                      refine hK _ _ fun nx => ?_; clear hK K; try clear kk
                      by_cases h26 : (atZ.From != XH) = true
                      · rw [if_pos h26] at hh
                        refine zk (by first | exact congrArg PV.bool h26 | rfl) ?_
                        refine zb fun K kk hK => ?_
                        simp only [go_sem]
                        refine hK _ _ fun nx => ?_; clear hK K; try clear kk
                        refine zi ?_; refine nmx ?_
                        obtain hR := Option.some.inj hh
                        subst hR
                        exact zy
                      · rw [if_neg h26] at hh
                        replace h26 := Bool.eq_false_iff.mpr h26
                        refine zh (by first | exact congrArg PV.bool h26 | rfl) ?_
                        refine zx ?_; refine nmx ?_
                        obtain ⟨⟨arP, apa⟩, h27, hh⟩ := ze hh
                        dsimp only at hh
                        refine zb fun K kk hK => ?_
                        simp only [go_sem]
                        refine zg (xH _ _ _ h27) (by (try simp only [go_sem]) <;> exact wkl) (by rfl) (by rfl) ?_
                        simp only [go_sem]
                        refine hK _ _ fun nx => ?_; clear hK K; try clear kk
                        refine zm ?_
                        refine zb fun K kk hK => ?_
                        simp only [go_sem]
                        refine hK _ _ fun nx => ?_; clear hK K; try clear kk
                        by_cases h28 : (apa != (0 : Int)) = true
                        · rw [if_pos h28] at hh
                          refine zk (by first | exact congrArg PV.bool h28 | rfl) ?_
                          refine zb fun K kk hK => ?_
                          simp only [go_sem]
                          refine hK _ _ fun nx => ?_; clear hK K; try clear kk
                          refine zi ?_; refine nmx ?_
                          obtain hR := Option.some.inj hh
                          subst hR
                          exact zy
                        · rw [if_neg h28] at hh
                          replace h28 := Bool.eq_false_iff.mpr h28
                          refine zh (by first | exact congrArg PV.bool h28 | rfl) ?_
                          refine zx ?_; refine nmx ?_
                          obtain ⟨⟨aue, atv⟩, h29, hh⟩ := ze hh
                          dsimp only at hh
                          refine zb fun K kk hK => ?_
                          simp only [go_sem]
                          refine zg (X3 _ _ _ h29) (by (try simp only [go_sem]) <;> exact wkl) (by rfl) (by rfl) ?_
                          simp only [go_sem]
                          refine hK _ _ fun nx => ?_; clear hK K; try clear kk
                          obtain ⟨⟨au5, atu⟩, h30, hh⟩ := ze hh
                          dsimp only at hh
                          refine zb fun K kk hK => ?_
                          simp only [go_sem]
                          refine zg (X3 _ _ _ h30) (by (try simp only [go_sem]) <;> exact wkl) (by rfl) (by rfl) ?_
                          simp only [go_sem]
                          refine hK _ _ fun nx => ?_; clear hK K; try clear kk
                          by_cases h31 : (atv == (0 : Int)) = true
                          · rw [if_pos h31] at hh
                            by_cases h32 : (atu == (0 : Int)) = true
                            · rw [if_pos h32] at hh
                              obtain ⟨anp, h33, hh⟩ := ze hh
                              refine zb fun K kk hK => ?_
                              simp only [go_sem, h31, h32]
                              (repeat refine sd ?_)
                              refine zg (vC _ _ _ h33) (by (try simp only [go_sem, h31, h32]) <;> exact wkl) (by rfl) (by rfl) ?_
                              simp only [go_sem, h31, h32]
                              (repeat refine sd ?_)
                              refine hK _ _ fun nx => ?_; clear hK K; try clear kk
                              refine zi ?_; refine nmx ?_
                              obtain hR := Option.some.inj hh
                              subst hR
                              exact zy
                            · rw [if_neg h32] at hh
                              replace h32 := Bool.eq_false_iff.mpr h32
                              refine zb fun K kk hK => ?_
                              simp only [go_sem, h31, h32]
                              (repeat refine sd ?_)
                              refine hK _ _ fun nx => ?_; clear hK K; try clear kk
                              refine zi ?_; refine nmx ?_
                              obtain hR := Option.some.inj hh
                              subst hR
                              exact zy
                          · rw [if_neg h31] at hh
                            replace h31 := Bool.eq_false_iff.mpr h31
                            refine zb fun K kk hK => ?_
                            simp only [go_sem, h31]
                            (repeat refine sd ?_)
                            refine hK _ _ fun nx => ?_; clear hK K; try clear kk
                            refine zi ?_; refine nmx ?_
                            obtain hR := Option.some.inj hh
                            subst hR
                            exact zy
end Go.Proofs.YtclohbgnaopjfaaDoor
