/- Texts of the proof of stepAttrsCard -/
import Derived.Test.YtclohbgnaopjfaaDoorAgC
import Derived.Test.YtclohbgnaopjfaaDoorAgF
import Derived.Test.YtclohbgnaopjfaaDoorAgK0
import Derived.Test.YtclohbgnaopjfaaDoorAgK1
import Derived.Test.YtclohbgnaopjfaaDoorAgL
namespace Go.Proofs.YtclohbgnaopjfaaDoor
set_option linter.unusedSimpArgs false
set_option linter.unusedVariables false
open Go
set_option maxRecDepth 100000
theorem QR (n_1 : za) (K9 : Int) (R : (qU × Int)) (hh : kN n_1 K9 = some R) : PC Tryd.prog 97 [.agg [.str n_1.Kind, .str n_1.Text, .list 1 (n_1.Marks.map PV.str), .list 2 (n_1.zt.map zf.pv), .list 5 (n_1.Kids.map za.pv)], .int .i64 K9] (.tup [.agg [.list 1 (R.1.Path.map (PV.int .i64)), .int .i64 R.1.Index, .int .i64 R.1.Offset], .int .i64 R.2]) := by
  rw [kN] at hh
  refine YN rfl ?_
  refine zb fun K kk hK => ?_
  simp only [go_sem]
  refine hK _ _ fun nx => ?_; clear hK K; try clear kk
  refine aoS ?_
  refine zm ?_
  by_cases h1 : (n_1.Kind == ([116, 101, 120, 116] : Str)) = true
  · rw [if_pos h1] at hh
    refine zb fun K kk hK => ?_
    simp only [go_sem, h1]
    (repeat refine sd ?_)
    refine hK _ _ fun nx => ?_; clear hK K; try clear kk
    refine zk rfl ?_
    refine zb fun K kk hK => ?_
    simp only [go_sem]
    refine hK _ _ fun nx => ?_; clear hK K; try clear kk
    refine zi ?_; refine nmx ?_
    obtain hR := Option.some.inj hh
    subst hR
    exact zy
  · rw [if_neg h1] at hh
    replace h1 := Bool.eq_false_iff.mpr h1
    by_cases h2 : (decide (K9 < (0 : Int))) = true
    · rw [if_pos h2] at hh
      refine zb fun K kk hK => ?_
      simp only [go_sem, h1, h2, of_decide_eq_true h2]
      (repeat refine sd ?_)
      refine hK _ _ fun nx => ?_; clear hK K; try clear kk
      refine zk rfl ?_
      refine zb fun K kk hK => ?_
      simp only [go_sem]
      refine hK _ _ fun nx => ?_; clear hK K; try clear kk
      refine zi ?_; refine nmx ?_
      obtain hR := Option.some.inj hh
      subst hR
      exact zy
    · rw [if_neg h2] at hh
      replace h2 := Bool.eq_false_iff.mpr h2
      obtain ⟨Qt, h3, hh⟩ := ze hh
      refine zb fun K kk hK => ?_
      simp only [go_sem, h1, h2, of_decide_eq_false h2]
      (repeat refine sd ?_)
      refine zg (jS _ _ h3) (by (try simp only [go_sem, h1, h2, of_decide_eq_false h2]) <;> exact wkl) (by rfl) (by rfl) ?_
      simp only [go_sem, h1, h2, of_decide_eq_false h2]
      (repeat refine sd ?_)
      refine hK _ _ fun nx => ?_; clear hK K; try clear kk
      by_cases h4 : (decide (K9 > Qt)) = true
      · rw [if_pos h4] at hh
        refine zk (by first | exact congrArg PV.bool h4 | rfl) ?_
        refine zb fun K kk hK => ?_
        simp only [go_sem]
        refine hK _ _ fun nx => ?_; clear hK K; try clear kk
        refine zi ?_; refine nmx ?_
        obtain hR := Option.some.inj hh
        subst hR
        exact zy
      · rw [if_neg h4] at hh
        replace h4 := Bool.eq_false_iff.mpr h4
        refine zh (by first | exact congrArg PV.bool h4 | rfl) ?_
        refine zx ?_; refine nmx ?_
        refine zb fun K kk hK => ?_
        simp only [go_sem]
        refine hK _ _ fun nx => ?_; clear hK K; try clear kk
        refine zm ?_
        refine an0 ?_; refine nmx ?_
        obtain ⟨e0, f0, hh⟩ := ze hh
        refine qy (wS (fun s => False))
          (fun i s => False)
          (fun s => ∃ X8, X8 = e0 ∧ zR Tryd.prog [.cell 4 149, .tmp 5] (.tup [.agg [.list 1 (X8.1.Path.map (PV.int .i64)), .int .i64 X8.1.Index, .int .i64 X8.1.Offset], .int .i64 X8.2]) [] .ret s) ?_ ?_ ?_ ?_
        · refine zD ?_
          refine qi fun I hI => ?_
          obtain ⟨k, f0⟩ := xV f0
          have key : ∀ (k : Nat) (adI : Int) (Qy : za) (Xj : (List Int)), wP k adI Qy Xj = some e0 → ∀ (nx : Nat) (g2 : Nat) (g4 : Nat) (g6 : Nat) (g342 : Nat), I ⟨[(1, .int .i64 adI), (2, .box 2 g2 0), (4, .box 4 g4 0), (6, .box 6 g6 0)], [(2, g2, .var 28 [.str Qy.Kind, .str Qy.Text, .list 1 (Qy.Marks.map PV.str), .list 2 (Qy.zt.map zf.pv), .list 5 (Qy.Kids.map za.pv)]), (4, g4, .var 149 [.list 1 ([].map (PV.int .i64)), .int .i64 (0 : Int), .int .i64 (0 : Int)]), (6, g6, .var 149 [.row 342 g342 Xj.length, .int .i64 (0 : Int), .int .i64 (0 : Int)]), (342, g342, .row false 1 (Xj.map (PV.int .i64)))], nx⟩ := by
            intro k
            induction k with
            | zero => intro adI Qy Xj hh; rw [wP] at hh; cases hh
            | succ k ih =>
              intro adI Qy Xj hh nx g2 g4 g6 g342
              rw [wP] at hh
              refine hI _ ?_
              refine zD ?_
              refine zm ?_
              refine zb fun K kk hK => ?_
              simp only [go_sem]
              refine hK _ _ fun nx => ?_; clear hK K; try clear kk
              obtain ⟨e2, f2, hh⟩ := ze hh
              obtain ⟨hlen2, f2⟩ := zZ f2
              refine qy (wS (fun s => .inr (.inr ()) = e2 ∧ ∃ (aqo : Int) (aqW : Int) (aus : Bool) (nx : Nat) (g2 : Nat) (g4 : Nat) (g6 : Nat) (g342 : Nat), s = ⟨[(1, .int .i64 aqo), (2, .box 2 g2 0), (4, .box 4 g4 0), (6, .box 6 g6 0), (26, .list 5 (Qy.Kids.map za.pv)), (27, .int .i64 (Qy.Kids.length : Int)), (28, .int .i64 aqW), (29, .bool aus)], [(2, g2, .var 28 [.str Qy.Kind, .str Qy.Text, .list 1 (Qy.Marks.map PV.str), .list 2 (Qy.zt.map zf.pv), .list 5 (Qy.Kids.map za.pv)]), (4, g4, .var 149 [.list 1 ([].map (PV.int .i64)), .int .i64 (0 : Int), .int .i64 (0 : Int)]), (6, g6, .var 149 [.row 342 g342 Xj.length, .int .i64 (0 : Int), .int .i64 (0 : Int)]), (342, g342, .row false 1 (Xj.map (PV.int .i64)))], nx⟩))
                (fun i s => (i = 1 ∧ ∃ afY, ∃ ajo, ∃ Ym, .inr (.inl (afY, ajo, Ym)) = e2 ∧ ∃ (nx : Nat) (g2 : Nat) (g4 : Nat) (g6 : Nat) (g342 : Nat), s = ⟨[(1, .int .i64 afY), (2, .box 2 g2 0), (4, .box 4 g4 0), (6, .box 6 g6 0)], [(2, g2, .var 28 [.str ajo.Kind, .str ajo.Text, .list 1 (ajo.Marks.map PV.str), .list 2 (ajo.zt.map zf.pv), .list 5 (ajo.Kids.map za.pv)]), (4, g4, .var 149 [.list 1 ([].map (PV.int .i64)), .int .i64 (0 : Int), .int .i64 (0 : Int)]), (6, g6, .var 149 [.row 342 g342 Ym.length, .int .i64 (0 : Int), .int .i64 (0 : Int)]), (342, g342, .row false 1 (Ym.map (PV.int .i64)))], nx⟩))
                (fun s => ∃ XQ, .inl XQ = e2 ∧ zR Tryd.prog [.cell 4 149, .tmp 5] (.tup [.agg [.list 1 (XQ.1.Path.map (PV.int .i64)), .int .i64 XQ.1.Index, .int .i64 XQ.1.Offset], .int .i64 XQ.2]) [] .ret s) ?_ ?_ ?_ ?_
              · refine zD ?_
                refine qi fun I hI => ?_
                have key : ∀ (suf pre : List za) (aeU : Int) (QN : Int), Qy.Kids = pre ++ suf → aeU = (pre.length : Int) → zY Xj suf aeU QN = some e2 → ∀ (nx : Nat) (g2 : Nat) (g4 : Nat) (g6 : Nat) (g342 : Nat), I ⟨[(1, .int .i64 QN), (2, .box 2 g2 0), (4, .box 4 g4 0), (6, .box 6 g6 0), (26, .list 5 (Qy.Kids.map za.pv)), (27, .int .i64 (Qy.Kids.length : Int)), (28, .int .i64 aeU)], [(2, g2, .var 28 [.str Qy.Kind, .str Qy.Text, .list 1 (Qy.Marks.map PV.str), .list 2 (Qy.zt.map zf.pv), .list 5 (Qy.Kids.map za.pv)]), (4, g4, .var 149 [.list 1 ([].map (PV.int .i64)), .int .i64 (0 : Int), .int .i64 (0 : Int)]), (6, g6, .var 149 [.row 342 g342 Xj.length, .int .i64 (0 : Int), .int .i64 (0 : Int)]), (342, g342, .row false 1 (Xj.map (PV.int .i64)))], nx⟩ := by
                  intro suf
                  induction suf with
                  | nil =>
                    intro pre aeU QN hsplit hidx hh nx g2 g4 g6 g342
                    rw [zY] at hh
                    refine hI _ ?_
                    have h39 := walk_nil hsplit hidx
                    refine zb fun K kk hK => ?_
                    simp only [go_sem]
                    refine hK _ _ fun nx => ?_; clear hK K; try clear kk
                    refine zm ?_
                    refine zh (by first | exact congrArg PV.bool h39 | rfl) ?_
                    refine qd ?_; refine nmx ?_
                    refine kL ?_
                    refine zH ?_
                    refine ⟨(Option.some.inj hh), ?_⟩
                    first | exact ⟨_, _, _, _, _, _, _, _, rfl⟩ | (simp only [pvE, lsE, zo]; exact ⟨_, _, _, _, _, _, _, _, rfl⟩) | (simp only [pvE, lsE, zo, h1, h2, h39, h4]; exact ⟨_, _, _, _, _, _, _, _, rfl⟩)
                  | cons aox suf ih =>
                    intro pre aeU QN hsplit hidx hh nx g2 g4 g6 g342
                    rw [zY] at hh
                    refine hI _ ?_
                    obtain ⟨hl2a, hl2b, hl2d, hl2w, h39⟩ := qD (f := za.pv) hsplit hidx hlen2
                    refine zb fun K kk hK => ?_
                    simp only [go_sem]
                    refine hK _ _ fun nx => ?_; clear hK K; try clear kk
                    refine zm ?_
                    refine zk (by first | exact congrArg PV.bool h39 | rfl) ?_
                    refine zx ?_; refine nmx ?_
                    refine zm ?_
                    refine zD ?_
                    refine zb fun K kk hK => ?_
                    simp only [go_sem, hl2a, hl2b, hl2d, hl2w]
                    refine hK _ _ fun nx => ?_; clear hK K; try clear kk
                    obtain ⟨ae1, h40, hh⟩ := ze hh
                    refine zb fun K kk hK => ?_
                    simp only [go_sem, hl2a, hl2b, hl2d, hl2w]
                    refine zg (Qi _ _ h40) (by (try simp only [go_sem, hl2a, hl2b, hl2d, hl2w]) <;> exact wkl) (by rfl) (by rfl) ?_
                    simp only [go_sem, hl2a, hl2b, hl2d, hl2w]
                    refine hK _ _ fun nx => ?_; clear hK K; try clear kk
                    refine zD ?_
                    refine zb fun K kk hK => ?_
                    simp only [go_sem, hl2a, hl2b, hl2d, hl2w]
                    refine hK _ _ fun nx => ?_; clear hK K; try clear kk
                    by_cases h41 : (decide (QN ≥ ae1)) = true
                    · rw [if_pos h41] at hh
                      refine zk (by first | exact congrArg PV.bool h41 | rfl) ?_
                      refine zq fun K kk hK => ?_
                      simp only [go_sem, hl2a, hl2b, hl2d, hl2w]
                      refine hK _ _ fun nx => ?_; clear hK K; try clear kk
                      refine nmx ?_
                      refine zq fun K kk hK => ?_
                      simp only [go_sem, hl2a, hl2b, hl2d, hl2w]
                      refine hK _ _ fun nx => ?_; clear hK K; try clear kk
                      refine nmx ?_
                      have ih' := ih (pre ++ [aox]) (aeU + 1) _ (by rw [hsplit]; simp) (by simp [hidx]) hh nx
                      refine zH ?_
                      first | exact ih' _ _ _ _ | (simp only [pvE, lsE, zo] at ih' ⊢; exact ih' _ _ _ _) | (simp only [pvE, lsE, zo, h1, h2, h39, h4, h41] at ih' ⊢; exact ih' _ _ _ _)
                    · rw [if_neg h41] at hh
                      replace h41 := Bool.eq_false_iff.mpr h41
                      refine zh (by first | exact congrArg PV.bool h41 | rfl) ?_
                      refine zb fun K kk hK => ?_
                      simp only [go_sem, hl2a, hl2b, hl2d, hl2w]
                      refine hK _ _ fun nx => ?_; clear hK K; try clear kk
                      by_cases h42 : (aox.Kind == ([116, 101, 120, 116] : Str)) = true
                      · rw [if_pos h42] at hh
                        refine zk (by first | exact congrArg PV.bool h42 | rfl) ?_
                        refine zb fun K kk hK => ?_
                        simp only [go_sem, hl2a, hl2b, hl2d, hl2w]
                        refine hK _ _ fun nx => ?_; clear hK K; try clear kk
                        refine zb fun K kk hK => ?_
                        simp only [go_sem, hl2a, hl2b, hl2d, hl2w]
                        refine hK _ _ fun nx => ?_; clear hK K; try clear kk
                        refine zi ?_; refine nmx ?_
                        refine Z9 ⟨_, (Option.some.inj hh), ?_⟩
                        exact zy
                      · rw [if_neg h42] at hh
                        replace h42 := Bool.eq_false_iff.mpr h42
                        refine zh (by first | exact congrArg PV.bool h42 | rfl) ?_
                        refine zb fun K kk hK => ?_
                        simp only [go_sem, hl2a, hl2b, hl2d, hl2w]
                        refine hK _ _ fun nx => ?_; clear hK K; try clear kk
                        by_cases h43 : (QN == (0 : Int)) = true
                        · rw [if_pos h43] at hh
                          refine zk (by first | exact congrArg PV.bool h43 | rfl) ?_
                          refine zb fun K kk hK => ?_
                          simp only [go_sem, hl2a, hl2b, hl2d, hl2w]
                          refine hK _ _ fun nx => ?_; clear hK K; try clear kk
                          refine zb fun K kk hK => ?_
                          simp only [go_sem, hl2a, hl2b, hl2d, hl2w]
                          refine hK _ _ fun nx => ?_; clear hK K; try clear kk
                          refine zi ?_; refine nmx ?_
                          refine Z9 ⟨_, (Option.some.inj hh), ?_⟩
                          exact zy
                        · rw [if_neg h43] at hh
                          replace h43 := Bool.eq_false_iff.mpr h43
                          refine zh (by first | exact congrArg PV.bool h43 | rfl) ?_
                          obtain ⟨aqa, h44, hh⟩ := ze hh
                          obtain ⟨h44a, h44c⟩ := zX h44
                          have h44d := qH (f := (PV.int .i64)) h44c
                          have h44e := qG h44c
                          try simp only [List.length_cons, List.length_nil, Nat.zero_add, Nat.reduceAdd] at h44a h44e
                          try simp only [h44e] at h44a
                          try simp only [List.map_cons, List.map_nil, List.nil_append, List.append_nil, List.cons_append, List.singleton_append, zo, pvE] at h44d
                          refine zb fun K kk hK => ?_
                          simp only [go_sem, h44a, h44d, h44e, hl2a, hl2b, hl2d, hl2w]
                          (repeat refine sd ?_)
                          refine hK _ _ fun nx => ?_; clear hK K; try clear kk
                          refine zb fun K kk hK => ?_
                          simp only [go_sem, hl2a, hl2b, hl2d, hl2w]
                          refine hK _ _ fun nx => ?_; clear hK K; try clear kk
                          refine qd ?_; refine nmx ?_
                          refine aqJ ⟨rfl, _, _, _, (Option.some.inj hh), ?_⟩
                          first | exact ⟨_, _, _, _, _, rfl⟩ | (simp only [pvE, lsE, zo, h44e]; exact ⟨_, _, _, _, _, rfl⟩) | (simp only [pvE, lsE, zo, h44e, h1, h2, h39, h4, h41, h42, h43]; exact ⟨_, _, _, _, _, rfl⟩)
                exact key Qy.Kids [] _ _ rfl rfl f2 _ _ _ _ _
              · rintro s ⟨t, hless, rfl, aqo, aqW, aus, nx, g2, g4, g6, g342, rfl⟩
                try dsimp only at hh
                refine nmy ?_
                first | (refine wh hless ?_; try refine kg ?_) | refine qF hless ?_ | refine qE hless ?_
                refine zb fun K kk hK => ?_
                simp only [go_sem]
                refine hK _ _ fun nx => ?_; clear hK K; try clear kk
                refine zb fun K kk hK => ?_
                simp only [go_sem]
                refine hK _ _ fun nx => ?_; clear hK K; try clear kk
                refine zi ?_; refine nmx ?_
                refine Z9 ⟨_, (Option.some.inj hh), ?_⟩
                exact zy
              · intro i s h
                obtain ⟨rfl, afY, ajo, Ym, rfl, nx, g2, g4, g6, g342, rfl⟩ := h
                try dsimp only at hh
                refine nmx ?_
                have ih' := ih _ _ _ hh nx
                refine zH ?_
                first | exact ih' _ _ _ _ | (simp only [pvE, lsE, zo] at ih' ⊢; exact ih' _ _ _ _) | (simp only [pvE, lsE, zo, h1, h2, h4] at ih' ⊢; exact ih' _ _ _ _)
              · rintro s ⟨XQ, rfl, hb⟩
                try dsimp only at hh
                refine nmx ?_
                exact Z9 ⟨_, (Option.some.inj hh), hb⟩
          exact key _ _ _ _ f0 _ _ _ _ _
        · rintro s ⟨_, _, h⟩; exact h.elim
        · intro i s h; exact h.elim
        · rintro s ⟨X8, rfl, hb⟩
          try dsimp only at hh
          obtain hR := Option.some.inj hh
          subst hR
          refine nmx ?_
          exact hb
theorem afT (n_1 : za) (K9 : Int) (R : ((List Int) × Bool)) (hh : yl n_1 K9 = some R) : PC Tryd.prog 74 [.agg [.str n_1.Kind, .str n_1.Text, .list 1 (n_1.Marks.map PV.str), .list 2 (n_1.zt.map zf.pv), .list 5 (n_1.Kids.map za.pv)], .int .i64 K9] (.tup [.list 1 (R.1.map (PV.int .i64)), .bool R.2]) := by
  rw [yl] at hh
  refine ab5 rfl ?_
  refine zb fun K kk hK => ?_
  simp only [go_sem]
  refine hK _ _ fun nx => ?_; clear hK K; try clear kk
  refine zm ?_
  refine zb fun K kk hK => ?_
  simp only [go_sem]
  refine hK _ _ fun nx => ?_; clear hK K; try clear kk
  by_cases h1 : (K9 == (-1 : Int)) = true
  · rw [if_pos h1] at hh
    refine zk (by first | exact congrArg PV.bool h1 | rfl) ?_
    refine zb fun K kk hK => ?_
    simp only [go_sem]
    refine hK _ _ fun nx => ?_; clear hK K; try clear kk
    refine zi ?_; refine nmx ?_
    obtain hR := Option.some.inj hh
    subst hR
    exact zy
  · rw [if_neg h1] at hh
    replace h1 := Bool.eq_false_iff.mpr h1
    refine zh (by first | exact congrArg PV.bool h1 | rfl) ?_
    refine zx ?_; refine nmx ?_
    obtain ⟨⟨r_3, r_4⟩, h2, hh⟩ := ze hh
    dsimp only at hh
    refine zb fun K kk hK => ?_
    simp only [go_sem]
    refine zg (QR _ _ _ h2) (by (try simp only [go_sem]) <;> exact wkl) (by rfl) (by rfl) ?_
    simp only [go_sem]
    refine hK _ _ fun nx => ?_; clear hK K; try clear kk
    refine zm ?_
    by_cases h3 : (r_4 != (0 : Int)) = true
    · rw [if_pos h3] at hh
      refine zb fun K kk hK => ?_
      simp only [go_sem, h3]
      (repeat refine sd ?_)
      refine hK _ _ fun nx => ?_; clear hK K; try clear kk
      refine zk rfl ?_
      refine zb fun K kk hK => ?_
      simp only [go_sem]
      refine hK _ _ fun nx => ?_; clear hK K; try clear kk
      refine zi ?_; refine nmx ?_
      obtain hR := Option.some.inj hh
      subst hR
      exact zy
    · rw [if_neg h3] at hh
      replace h3 := Bool.eq_false_iff.mpr h3
      refine zb fun K kk hK => ?_
      simp only [go_sem, h3]
      (repeat refine sd ?_)
      refine hK _ _ fun nx => ?_; clear hK K; try clear kk
      by_cases h4 : (decide (r_3.Offset > (0 : Int))) = true
      · rw [if_pos h4] at hh
        refine zk (by first | exact congrArg PV.bool h4 | rfl) ?_
        refine zb fun K kk hK => ?_
        simp only [go_sem]
        refine hK _ _ fun nx => ?_; clear hK K; try clear kk
        refine zi ?_; refine nmx ?_
        obtain hR := Option.some.inj hh
        subst hR
        exact zy
      · rw [if_neg h4] at hh
        replace h4 := Bool.eq_false_iff.mpr h4
        refine zh (by first | exact congrArg PV.bool h4 | rfl) ?_
        refine zx ?_; refine nmx ?_
        obtain ⟨asN, h5, hh⟩ := ze hh
        obtain ⟨l_6, h6, hh⟩ := ze hh
        obtain ⟨h6a, h6c⟩ := zX h6
        have h6d := qH (f := (PV.int .i64)) h6c
        have h6e := qG h6c
        try simp only [List.length_cons, List.length_nil, Nat.zero_add, Nat.reduceAdd] at h6a h6e
        try simp only [h6e] at h6a
        try simp only [List.map_cons, List.map_nil, List.nil_append, List.append_nil, List.cons_append, List.singleton_append, zo, pvE] at h6d
        refine zb fun K kk hK => ?_
        simp only [go_sem, h6a, h6d, h6e]
        (repeat refine sd ?_)
        refine aaY [] (by decide) (by decide) (YP _ _ h5) (by (try simp only [go_sem, h6a, h6d, h6e, h1, h3, h4]) <;> exact wkb) (by rfl) (by rfl) ?_
        simp only [go_sem, h6a, h6d, h6e]
        (repeat refine sd ?_)
        refine hK _ _ fun nx => ?_; clear hK K; try clear kk
        obtain ⟨⟨r_7, r_8⟩, h7, hh⟩ := ze hh
        dsimp only at hh
        refine zb fun K kk hK => ?_
        simp only [go_sem]
        refine zg (yh _ _ _ h7) (by (try simp only [go_sem]) <;> exact wkl) (by rfl) (by rfl) ?_
        simp only [go_sem]
        refine hK _ _ fun nx => ?_; clear hK K; try clear kk
        refine zb fun K kk hK => ?_
        simp only [go_sem]
        refine hK _ _ fun nx => ?_; clear hK K; try clear kk
        refine zi ?_; refine nmx ?_
        obtain hR := Option.some.inj hh
        subst hR
        exact zy
theorem aeP (a_1 : zf) (qL : zz) (R : Bool) (hh : Kt a_1 qL = some R) : BC Tryd.prog 77 [.agg [.str a_1.Name, .str a_1.Value], .box 1000 0 0] [.var 39 [.int .u8 qL.Kind, .int .i64 qL.From, .int .i64 qL.To, .list 5 (qL.wC.map za.pv), .str qL.Name, .str qL.Value]] (.bool R) [.var 39 [.int .u8 qL.Kind, .int .i64 qL.From, .int .i64 qL.To, .list 5 (qL.wC.map za.pv), .str qL.Name, .str qL.Value]] := by
  rw [Kt] at hh
  refine aa9 rfl rfl rfl ?_
  refine zb fun K kk hK => ?_
  simp only [go_sem]
  refine hK _ _ fun nx => ?_; clear hK K; try clear kk
  refine zb fun K kk hK => ?_
  simp only [go_sem]
  refine hK _ _ fun nx => ?_; clear hK K; try clear kk
  refine zi ?_; refine nmx ?_
  obtain hR := Option.some.inj hh
  subst hR
  refine kR ?_ (by rfl) ?_
  · simp only [go_sem, wu, jA, ku, ve, yP, List.map_cons, List.map_append, List.head?_cons]
    all_goals exact wkw
  · (try simp only [go_sem]); (try simp only [List.length_append, List.map_append]); all_goals exact wkb
theorem QZ (s_1 : (List zf)) (qL : zz) (R : (Int × zz)) (hh : qM s_1 qL = some R) : BC Tryd.prog 76 [.list 2 (s_1.map zf.pv), .fn 77 [.box 1000 0 0]] [.var 39 [.int .u8 qL.Kind, .int .i64 qL.From, .int .i64 qL.To, .list 5 (qL.wC.map za.pv), .str qL.Name, .str qL.Value]] (.int .i64 R.1) [.var 39 [.int .u8 R.2.Kind, .int .i64 R.2.From, .int .i64 R.2.To, .list 5 (R.2.wC.map za.pv), .str R.2.Name, .str R.2.Value]] := by
  rw [qM] at hh
  refine ZU rfl rfl rfl ?_
  refine zb fun K kk hK => ?_
  simp only [go_sem]
  refine hK _ _ fun nx => ?_; clear hK K; try clear kk
  refine zm ?_
  refine zb fun K kk hK => ?_
  simp only [go_sem]
  refine hK _ _ fun nx => ?_; clear hK K; try clear kk
  obtain ⟨e0, f0, hh⟩ := ze hh
  obtain ⟨hlen0, f0⟩ := zZ f0
  refine qy (wS (fun s => .inr () = e0 ∧ ∃ (Q4 : Int) (Wo : Bool) (nx : Nat), s = ⟨[(0, .list 2 (s_1.map zf.pv)), (1, .fn 77 [.box 1000 0 0]), (7, .int .i64 (s_1.length : Int)), (8, .int .i64 Q4), (9, .bool Wo)], [(1000, 0, .var 39 [.int .u8 qL.Kind, .int .i64 qL.From, .int .i64 qL.To, .list 5 (qL.wC.map za.pv), .str qL.Name, .str qL.Value])], nx⟩))
    (fun i s => False)
    (fun s => ∃ wK, .inl wK = e0 ∧ zR Tryd.prog [.tmp 4] (.int .i64 wK.1) [.var 39 [.int .u8 wK.2.Kind, .int .i64 wK.2.From, .int .i64 wK.2.To, .list 5 (wK.2.wC.map za.pv), .str wK.2.Name, .str wK.2.Value]] .ret s) ?_ ?_ ?_ ?_
  · refine zD ?_
    refine qi fun I hI => ?_
    have key : ∀ (suf pre : List zf) (v_5 : Int), s_1 = pre ++ suf → v_5 = (pre.length : Int) → zQ qL suf v_5 = some e0 → ∀ (nx : Nat), I ⟨[(0, .list 2 (s_1.map zf.pv)), (1, .fn 77 [.box 1000 0 0]), (7, .int .i64 (s_1.length : Int)), (8, .int .i64 v_5)], [(1000, 0, .var 39 [.int .u8 qL.Kind, .int .i64 qL.From, .int .i64 qL.To, .list 5 (qL.wC.map za.pv), .str qL.Name, .str qL.Value])], nx⟩ := by
      intro suf
      induction suf with
      | nil =>
        intro pre v_5 hsplit hidx hh nx
        rw [zQ] at hh
        refine hI _ ?_
        have h9 := walk_nil hsplit hidx
        refine zb fun K kk hK => ?_
        simp only [go_sem]
        refine hK _ _ fun nx => ?_; clear hK K; try clear kk
        refine zm ?_
        refine zh (by first | exact congrArg PV.bool h9 | rfl) ?_
        refine qd ?_; refine nmx ?_
        refine kL ?_
        refine zH ?_
        refine ⟨(Option.some.inj hh), ?_⟩
        first | exact ⟨_, _, _, rfl⟩ | (simp only [pvE, lsE, zo]; exact ⟨_, _, _, rfl⟩) | (simp only [pvE, lsE, zo, h9]; exact ⟨_, _, _, rfl⟩)
      | cons y_8 suf ih =>
        intro pre v_5 hsplit hidx hh nx
        rw [zQ] at hh
        refine hI _ ?_
        obtain ⟨hl0a, hl0b, hl0d, hl0w, h9⟩ := qD (f := zf.pv) hsplit hidx hlen0
        refine zb fun K kk hK => ?_
        simp only [go_sem]
        refine hK _ _ fun nx => ?_; clear hK K; try clear kk
        refine zm ?_
        refine zk (by first | exact congrArg PV.bool h9 | rfl) ?_
        refine zx ?_; refine nmx ?_
        refine zm ?_
        refine zD ?_
        refine zb fun K kk hK => ?_
        simp only [go_sem, hl0a, hl0b, hl0d, hl0w]
        refine hK _ _ fun nx => ?_; clear hK K; try clear kk
        obtain ⟨atM, h10, hh⟩ := ze hh
        refine zb fun K kk hK => ?_
        simp only [go_sem, hl0a, hl0b, hl0d, hl0w]
        refine jm [1000] (by decide) (aeP _ _ _ h10) (by (try simp only [go_sem, hl0a, hl0b, hl0d, hl0w, h9]) <;> exact wkb) (by rfl) ?_
        simp only [go_sem, hl0a, hl0b, hl0d, hl0w]
        refine hK _ _ fun nx => ?_; clear hK K; try clear kk
        by_cases h11 : (atM) = true
        · rw [if_pos h11] at hh
          refine zk (by first | exact congrArg PV.bool h11 | rfl) ?_
          refine zb fun K kk hK => ?_
          simp only [go_sem, hl0a, hl0b, hl0d, hl0w]
          refine hK _ _ fun nx => ?_; clear hK K; try clear kk
          refine zi ?_; refine nmx ?_
          refine Z9 ⟨_, (Option.some.inj hh), ?_⟩
          refine kR ?_ (by rfl) ?_
          · simp only [go_sem, wu, jA, ku, ve, yP, List.map_cons, List.map_append, List.head?_cons, h11, h9]
            all_goals exact wkw
          · (try simp only [go_sem, h11, h9]); (try simp only [List.length_append, List.map_append]); all_goals exact wkb
        · rw [if_neg h11] at hh
          replace h11 := Bool.eq_false_iff.mpr h11
          refine zh (by first | exact congrArg PV.bool h11 | rfl) ?_
          refine zx ?_; refine nmx ?_
          refine zq fun K kk hK => ?_
          simp only [go_sem, hl0a, hl0b, hl0d, hl0w]
          refine hK _ _ fun nx => ?_; clear hK K; try clear kk
          refine nmx ?_
          have ih' := ih (pre ++ [y_8]) (v_5 + 1) (by rw [hsplit]; simp) (by simp [hidx]) hh nx
          refine zH ?_
          first | exact ih' | (simp only [pvE, lsE, zo] at ih' ⊢; exact ih') | (simp only [pvE, lsE, zo, h11, h9] at ih' ⊢; exact ih')
    exact key s_1 [] _ rfl rfl f0 _
  · rintro s ⟨t, hless, rfl, Q4, Wo, nx, rfl⟩
    try dsimp only at hh
    refine nmy ?_
    first | (refine wh hless ?_; try refine kg ?_) | refine qF hless ?_ | refine qE hless ?_
    refine zb fun K kk hK => ?_
    simp only [go_sem]
    refine hK _ _ fun nx => ?_; clear hK K; try clear kk
    refine zi ?_; refine nmx ?_
    obtain hR := Option.some.inj hh
    subst hR
    refine kR ?_ (by rfl) ?_
    · simp only [go_sem, wu, jA, ku, ve, yP, List.map_cons, List.map_append, List.head?_cons]
      all_goals exact wkw
    · (try simp only [go_sem]); (try simp only [List.length_append, List.map_append]); all_goals exact wkb
  · intro i s h; exact h.elim
  · rintro s ⟨wK, rfl, hb⟩
    try dsimp only at hh
    obtain hR := Option.some.inj hh
    subst hR
    refine nmx ?_
    exact hb
theorem jQ (l : (List za)) (R : (List za)) (hh : kv l = some R) : PC Tryd.prog 71 [.list 5 (l.map za.pv)] (.own 5 (R.map za.pv)) := by
 rw [kv] at hh
 obtain ⟨ha, hb⟩ := zX hh
 rw [List.nil_append] at hb
 subst hb
 try simp only [List.length_nil, Nat.zero_add] at ha
 refine Ku rfl ?_
 refine zb fun K kk hK => ?_
 simp only [go_sem]
 refine hK _ _ fun nx => ?_; clear hK K; try clear kk
 refine zb fun K kk hK => ?_
 simp only [go_sem]
 refine ⟨fun hnil => hK _ _ fun nx => ?_, hK _ _ fun nx => ?_⟩ <;> (clear hK K; try clear kk)
 ·have hl : l = [] := by simpa using hnil
  subst hl
  first | refine zk rfl ?_ | (refine zm ?_; refine zk rfl ?_)
  refine zb fun K kk hK => ?_
  simp only [go_sem]
  refine hK _ _ fun nx => ?_; clear hK K; try clear kk
  refine zi ?_; refine nmx ?_
  exact XW rfl
 ·first | refine zh rfl ?_ | (refine zm ?_; refine zh rfl ?_)
  refine zx ?_; refine nmx ?_
  refine zb fun K kk hK => ?_
  simp only [go_sem, ha]
  refine hK _ _ fun nx => ?_; clear hK K; try clear kk
  refine zi ?_; refine nmx ?_
  exact Yy (by rfl) (by rfl) (by rfl) (by simp) (by rfl)
theorem afE : ∀ kr : Nat, (∀ (n_1 : za) (qR : (List Int)) (m_3 : za) (R : (za × Int)), jN kr n_1 qR m_3 = some R → PC Tryd.prog 78 [.agg [.str n_1.Kind, .str n_1.Text, .list 1 (n_1.Marks.map PV.str), .list 2 (n_1.zt.map zf.pv), .list 5 (n_1.Kids.map za.pv)], .list 1 (qR.map (PV.int .i64)), .agg [.str m_3.Kind, .str m_3.Text, .list 1 (m_3.Marks.map PV.str), .list 2 (m_3.zt.map zf.pv), .list 5 (m_3.Kids.map za.pv)]] (.tup [.agg [.str R.1.Kind, .str R.1.Text, .list 1 (R.1.Marks.map PV.str), .list 2 (R.1.zt.map zf.pv), .list 5 (R.1.Kids.map za.pv)], .int .i64 R.2])) := by
  intro kr
  induction kr with
  | zero => exact (by intro n_1 qR m_3 R hh; rw [jN] at hh; cases hh)
  | succ kr ih =>
    have ih_place_With := ih
    clear ih
    intro n_1 qR m_3 R hh
    rw [jN] at hh
    refine adm rfl ?_
    refine zb fun K kk hK => ?_
    simp only [go_sem]
    refine hK _ _ fun nx => ?_; clear hK K; try clear kk
    refine zm ?_
    obtain ⟨⟨r_4, r_5⟩, h1, hh⟩ := ze hh
    dsimp only at hh
    refine zb fun K kk hK => ?_
    simp only [go_sem]
    refine zg (yh _ _ _ h1) (by (try simp only [go_sem]) <;> exact wkl) (by rfl) (by rfl) ?_
    simp only [go_sem]
    refine hK _ _ fun nx => ?_; clear hK K; try clear kk
    refine zb fun K kk hK => ?_
    simp only [go_sem]
    refine hK _ _ fun nx => ?_; clear hK K; try clear kk
    by_cases h2 : (r_5 != (0 : Int)) = true
    · rw [if_pos h2] at hh
      refine zk (by first | exact congrArg PV.bool h2 | rfl) ?_
      refine zb fun K kk hK => ?_
      simp only [go_sem]
      refine hK _ _ fun nx => ?_; clear hK K; try clear kk
      refine zi ?_; refine nmx ?_
      obtain hR := Option.some.inj hh
      subst hR
      exact zy
    · rw [if_neg h2] at hh
      replace h2 := Bool.eq_false_iff.mpr h2
      refine zh (by first | exact congrArg PV.bool h2 | rfl) ?_
      refine zx ?_; refine nmx ?_
      refine zm ?_
      refine zb fun K kk hK => ?_
      simp only [go_sem]
      refine hK _ _ fun nx => ?_; clear hK K; try clear kk
      by_cases h3 : ((qR.length : Int) == (0 : Int)) = true
      · rw [if_pos h3] at hh
        refine zk (by first | exact congrArg PV.bool h3 | rfl) ?_
        refine zb fun K kk hK => ?_
        simp only [go_sem]
        refine hK _ _ fun nx => ?_; clear hK K; try clear kk
        refine zi ?_; refine nmx ?_
        obtain hR := Option.some.inj hh
        subst hR
        exact zy
      · rw [if_neg h3] at hh
        replace h3 := Bool.eq_false_iff.mpr h3
        refine zh (by first | exact congrArg PV.bool h3 | rfl) ?_
        refine zx ?_; refine nmx ?_
        obtain ⟨amr, h4, hh⟩ := ze hh
        refine zb fun K kk hK => ?_
        simp only [go_sem]
        refine zg (jQ _ _ h4) (by (try simp only [go_sem]) <;> exact wkl) (by rfl) (by rfl) ?_
        simp only [go_sem]
        refine hK _ _ fun nx => ?_; clear hK K; try clear kk
        obtain ⟨x_7, h5, hh⟩ := ze hh
        obtain ⟨h5a, h5b, h5c⟩ := rd_some h5
        have h5d := kZ (f := (PV.int .i64)) h5c
        have h5f := wO (f := (PV.int .i64)) h5c
        try simp only [Int.toNat_natCast, Int.reduceToNat] at h5d h5f
        obtain ⟨x_8, h6, hh⟩ := ze hh
        obtain ⟨h6a, h6b, h6c⟩ := rd_some h6
        have h6d := kZ (f := za.pv) h6c
        have h6f := wO (f := za.pv) h6c
        try simp only [Int.toNat_natCast, Int.reduceToNat] at h6d h6f
        obtain ⟨s_9, h7, hh⟩ := ze hh
        obtain ⟨h7a, h7c⟩ := Q7 h7
        have h7g := aam h7a
        have h7d := ajO (f := (PV.int .i64)) h7c
        try simp only [Int.toNat_natCast, Int.reduceToNat, List.map_cons, List.map_nil, pvE] at h7d
        obtain ⟨⟨KR, VI⟩, h8, hh⟩ := ze hh
        dsimp only at hh
        obtain ⟨alH, h9, hh⟩ := ze hh
        obtain ⟨h9a, h9c⟩ := YC h9
        have h9d := adH (f := za.pv) h9c
        try simp only [Int.toNat_natCast, Int.reduceToNat, List.map_cons, List.map_nil, List.cons_append, List.nil_append, List.singleton_append, pvE] at h9d
        have h9e := adw h9c
        have h6b_h9 := h6b; rw [h9e] at h6b_h9
        have h6f1_h9 := h6f.1; rw [h9e] at h6f1_h9
        have h6a_h9 := h6a; try rw [h9e] at h6a_h9
        have h6d_h9 := h6d; try rw [h9e] at h6d_h9
        try rw [h9e] at h9d
        have h9bw := h9a.2; rw [h9e] at h9bw
        refine zb fun K kk hK => ?_
        simp only [go_sem, h5a, h5b, h5d, h5f.1, h5f.2, h6a, h6b, h6d, h6f.1, h6f.2, h7a.1, h7a.2.1, h7a.2.2, h7d, h7g, h9a.1, h9a.2, h9d, h9e, h6b_h9, h6f1_h9, h6a_h9, h6d_h9, h9bw]
        (repeat refine sd ?_)
        refine zg (ih_place_With _ _ _ _ h8) (by (try simp only [go_sem, h5a, h5b, h5d, h5f.1, h5f.2, h6a, h6b, h6d, h6f.1, h6f.2, h7a.1, h7a.2.1, h7a.2.2, h7d, h7g, h9a.1, h9a.2, h9d, h9e, h6b_h9, h6f1_h9, h6a_h9, h6d_h9, h9bw]) <;> exact wkl) (by rfl) (by rfl) ?_
        simp only [go_sem, h5a, h5b, h5d, h5f.1, h5f.2, h6a, h6b, h6d, h6f.1, h6f.2, h7a.1, h7a.2.1, h7a.2.2, h7d, h7g, h9a.1, h9a.2, h9d, h9e, h6b_h9, h6f1_h9, h6a_h9, h6d_h9, h9bw]
        (repeat refine sd ?_)
        try simp only [go_sem, h5a, h5b, h5d, h5f.1, h5f.2, h6a, h6b, h6d, h6f.1, h6f.2, h7a.1, h7a.2.1, h7a.2.2, h7d, h7g, h9a.1, h9a.2, h9d, h9e, h6b_h9, h6f1_h9, h6a_h9, h6d_h9, h9bw]
        refine hK _ _ fun nx => ?_; clear hK K; try clear kk
        refine zb fun K kk hK => ?_
        simp only [go_sem]
        refine hK _ _ fun nx => ?_; clear hK K; try clear kk
        refine zi ?_; refine nmx ?_
        obtain hR := Option.some.inj hh
        subst hR
        exact zy
theorem aaf (n_1 : za) (qR : (List Int)) (m_3 : za) (R : (za × Int)) (hh : QQ n_1 qR m_3 = some R) : PC Tryd.prog 78 [.agg [.str n_1.Kind, .str n_1.Text, .list 1 (n_1.Marks.map PV.str), .list 2 (n_1.zt.map zf.pv), .list 5 (n_1.Kids.map za.pv)], .list 1 (qR.map (PV.int .i64)), .agg [.str m_3.Kind, .str m_3.Text, .list 1 (m_3.Marks.map PV.str), .list 2 (m_3.zt.map zf.pv), .list 5 (m_3.Kids.map za.pv)]] (.tup [.agg [.str R.1.Kind, .str R.1.Text, .list 1 (R.1.Marks.map PV.str), .list 2 (R.1.zt.map zf.pv), .list 5 (R.1.Kids.map za.pv)], .int .i64 R.2]) := by
 rw [QQ] at hh
 obtain ⟨kr, hh⟩ := xV hh
 exact (afE kr) _ _ _ _ hh
theorem aet (n_1 : za) (s_2 : zz) (R : (za × Str × Int)) (hh : jZ n_1 s_2 = some R) : PC Tryd.prog 46 [.agg [.str n_1.Kind, .str n_1.Text, .list 1 (n_1.Marks.map PV.str), .list 2 (n_1.zt.map zf.pv), .list 5 (n_1.Kids.map za.pv)], .agg [.int .u8 s_2.Kind, .int .i64 s_2.From, .int .i64 s_2.To, .list 5 (s_2.wC.map za.pv), .str s_2.Name, .str s_2.Value]] (.tup [.agg [.str R.1.Kind, .str R.1.Text, .list 1 (R.1.Marks.map PV.str), .list 2 (R.1.zt.map zf.pv), .list 5 (R.1.Kids.map za.pv)], .str R.2.1, .int .i64 R.2.2]) := by
  rw [jZ] at hh
  refine afU rfl ?_
  refine zb fun K kk hK => ?_
  simp only [go_sem]
  refine hK _ _ fun nx => ?_; clear hK K; try clear kk
  obtain ⟨⟨r_3, r_4⟩, h1, hh⟩ := ze hh
  dsimp only at hh
  refine zb fun K kk hK => ?_
  simp only [go_sem]
  refine zg (afT _ _ _ h1) (by (try simp only [go_sem]) <;> exact wkl) (by rfl) (by rfl) ?_
  simp only [go_sem]
  refine hK _ _ fun nx => ?_; clear hK K; try clear kk
  refine zm ?_
  refine zb fun K kk hK => ?_
  simp only [go_sem]
  refine hK _ _ fun nx => ?_; clear hK K; try clear kk
  by_cases h2 : (!r_4) = true
  · rw [if_pos h2] at hh
    refine zk (by first | exact congrArg PV.bool h2 | rfl) ?_
    refine zb fun K kk hK => ?_
    simp only [go_sem]
    refine hK _ _ fun nx => ?_; clear hK K; try clear kk
    refine zi ?_; refine nmx ?_
    obtain hR := Option.some.inj hh
    subst hR
    exact zy
  · rw [if_neg h2] at hh
    replace h2 := Bool.eq_false_iff.mpr h2
    refine zh (by first | exact congrArg PV.bool h2 | rfl) ?_
    refine zx ?_; refine nmx ?_
    obtain ⟨⟨r_5, r_6⟩, h3, hh⟩ := ze hh
    dsimp only at hh
    refine zb fun K kk hK => ?_
    simp only [go_sem]
    refine zg (yh _ _ _ h3) (by (try simp only [go_sem]) <;> exact wkl) (by rfl) (by rfl) ?_
    simp only [go_sem]
    refine hK _ _ fun nx => ?_; clear hK K; try clear kk
    obtain ⟨⟨r_7, apk⟩, h4, hh⟩ := ze hh
    dsimp only at hh
    refine zb fun K kk hK => ?_
    simp only [go_sem]
    refine jm [3] (by decide) (QZ _ _ _ h4) (by (try simp only [go_sem, h2]) <;> exact wkb) (by rfl) ?_
    simp only [go_sem]
    refine hK _ _ fun nx => ?_; clear hK K; try clear kk
    refine zm ?_
    refine zb fun K kk hK => ?_
    simp only [go_sem]
    refine hK _ _ fun nx => ?_; clear hK K; try clear kk
    by_cases h5 : (decide (r_7 < (0 : Int))) = true
    · rw [if_pos h5] at hh
      refine zk (by first | exact congrArg PV.bool h5 | rfl) ?_
      refine zb fun K kk hK => ?_
      simp only [go_sem]
      refine hK _ _ fun nx => ?_; clear hK K; try clear kk
      refine zi ?_; refine nmx ?_
      obtain hR := Option.some.inj hh
      subst hR
      exact zy
    · rw [if_neg h5] at hh
      replace h5 := Bool.eq_false_iff.mpr h5
      refine zh (by first | exact congrArg PV.bool h5 | rfl) ?_
      refine zx ?_; refine nmx ?_
      obtain ⟨x_9, h6, hh⟩ := ze hh
      obtain ⟨h6a, h6b, h6c⟩ := rd_some h6
      have h6d := kZ (f := zf.pv) h6c
      have h6f := wO (f := zf.pv) h6c
      try simp only [Int.toNat_natCast, Int.reduceToNat] at h6d h6f
      refine zb fun K kk hK => ?_
      simp only [go_sem, h6a, h6b, h6d, h6f.1, h6f.2]
      (repeat refine sd ?_)
      refine hK _ _ fun nx => ?_; clear hK K; try clear kk
      obtain ⟨aiW, h7, hh⟩ := ze hh
      refine zb fun K kk hK => ?_
      simp only [go_sem]
      refine zg (VS _ _ h7) (by (try simp only [go_sem]) <;> exact wkl) (by rfl) (by rfl) ?_
      simp only [go_sem]
      refine hK _ _ fun nx => ?_; clear hK K; try clear kk
      obtain ⟨ag1, h8, hh⟩ := ze hh
      obtain ⟨h8a, h8b, h8c⟩ := rd_some h8
      have h8d := kZ (f := zf.pv) h8c
      have h8f := wO (f := zf.pv) h8c
      try simp only [Int.toNat_natCast, Int.reduceToNat] at h8d h8f
      obtain ⟨alH, h9, hh⟩ := ze hh
      obtain ⟨h9a, h9c⟩ := YC h9
      have h9d := adH (f := zf.pv) h9c
      try simp only [Int.toNat_natCast, Int.reduceToNat, List.map_cons, List.map_nil, List.cons_append, List.nil_append, List.singleton_append, pvE] at h9d
      have h9e := adw h9c
      have h8b_h9 := h8b; rw [h9e] at h8b_h9
      have h8f1_h9 := h8f.1; rw [h9e] at h8f1_h9
      have h8a_h9 := h8a; try rw [h9e] at h8a_h9
      have h8d_h9 := h8d; try rw [h9e] at h8d_h9
      try rw [h9e] at h9d
      have h9bw := h9a.2; rw [h9e] at h9bw
      refine zb fun K kk hK => ?_
      simp only [go_sem, h8a, h8b, h8d, h8f.1, h8f.2, h9a.1, h9a.2, h9d, h9e, h8b_h9, h8f1_h9, h8a_h9, h8d_h9, h9bw]
      (repeat refine sd ?_)
      try simp only [go_sem, h8a, h8b, h8d, h8f.1, h8f.2, h9a.1, h9a.2, h9d, h9e, h8b_h9, h8f1_h9, h8a_h9, h8d_h9, h9bw]
      refine hK _ _ fun nx => ?_; clear hK K; try clear kk
      obtain ⟨⟨Kl, aeO⟩, h10, hh⟩ := ze hh
      dsimp only at hh
      refine zb fun K kk hK => ?_
      simp only [go_sem]
      refine zg (aaf _ _ _ _ h10) (by (try simp only [go_sem]) <;> exact wkl) (by rfl) (by rfl) ?_
      simp only [go_sem]
      refine hK _ _ fun nx => ?_; clear hK K; try clear kk
      refine zb fun K kk hK => ?_
      simp only [go_sem]
      refine hK _ _ fun nx => ?_; clear hK K; try clear kk
      refine zi ?_; refine nmx ?_
      obtain hR := Option.some.inj hh
      subst hR
      exact zy
theorem acs (s : zz) (marks : (List Str)) (R : ((List Str) × Bool)) (hh : Ql s marks = some R) : PC Tryd.prog 112 [.agg [.int .u8 s.Kind, .int .i64 s.From, .int .i64 s.To, .list 5 (s.wC.map za.pv), .str s.Name, .str s.Value], .list 1 (marks.map PV.str)] (.tup [.list 1 (R.1.map PV.str), .bool R.2]) := by
 rw [Ql] at hh
 exact ap2 s marks R hh
theorem J4 (VV : Int) (aoA : Int) (vF : Int) (zA : Int) (jr : Int) (wY : (List za)) (vH : Str) (wZ : Str) (l_9 : (List zn)) (R : (Int × Int × Int × (List za) × Str × Str × (List zn))) (hh : vX VV aoA vF zA jr wY vH wZ l_9 = some R) : BC Tryd.prog 113 [.box 1000 0 0, .int .i64 VV, .int .i64 aoA] [.var 136 [.int .u8 vF, .int .i64 zA, .int .i64 jr, .list 5 (wY.map za.pv), .str vH, .str wZ, .row 1001 0 l_9.length], .row false 3 (l_9.map zn.pv)] (.tup []) [.var 136 [.int .u8 R.1, .int .i64 R.2.1, .int .i64 R.2.2.1, .list 5 (R.2.2.2.1.map za.pv), .str R.2.2.2.2.1, .str R.2.2.2.2.2.1, .row 1001 0 R.2.2.2.2.2.2.length], .moved 3 (R.2.2.2.2.2.2.map zn.pv)] := by
  rw [vX] at hh
  refine Vh rfl rfl rfl ?_
  refine zb fun K kk hK => ?_
  simp only [go_sem]
  refine hK _ _ fun nx => ?_; clear hK K; try clear kk
  refine zm ?_
  by_cases h1 : (decide ((w64 ((l_9.length : Int) - (1 : Int))) ≥ (0 : Int))) = true
  · rw [if_pos h1] at hh
    obtain ⟨ahi, h2, hh⟩ := ze hh
    obtain ⟨h2a, h2b, h2c⟩ := rd_some h2
    have h2d := kZ (f := zn.pv) h2c
    have h2f := wO (f := zn.pv) h2c
    try simp only [Int.toNat_natCast, Int.reduceToNat] at h2d h2f
    refine zb fun K kk hK => ?_
    simp only [go_sem, h1, of_decide_eq_true h1, h2a, h2b, h2d, h2f.1, h2f.2]
    (repeat refine sd ?_)
    refine hK _ _ fun nx => ?_; clear hK K; try clear kk
    by_cases h3 : ((w64 (ahi.Pos + ahi.Old)) == VV) = true
    · rw [if_pos h3] at hh
      refine zk (by first | exact congrArg PV.bool h3 | rfl) ?_
      obtain ⟨aqc, h4, hh⟩ := ze hh
      obtain ⟨h4a, h4c⟩ := YC h4
      have h4d := adH (f := zn.pv) h4c
      try simp only [Int.toNat_natCast, Int.reduceToNat, List.map_cons, List.map_nil, List.cons_append, List.nil_append, List.singleton_append, pvE] at h4d
      have h4e := adw h4c
      have h2b_h4 := h2b; rw [h4e] at h2b_h4
      have h2f1_h4 := h2f.1; rw [h4e] at h2f1_h4
      have h2a_h4 := h2a; try rw [h4e] at h2a_h4
      have h2d_h4 := h2d; try rw [h4e] at h2d_h4
      try rw [h4e] at h4d
      have h4bw := h4a.2; rw [h4e] at h4bw
      refine zb fun K kk hK => ?_
      simp only [go_sem, h2a, h2b, h2d, h2f.1, h2f.2, h4a.1, h4a.2, h4d, h4e, h2b_h4, h2f1_h4, h2a_h4, h2d_h4, h4bw]
      (repeat refine sd ?_)
      try simp only [go_sem, h2a, h2b, h2d, h2f.1, h2f.2, h4a.1, h4a.2, h4d, h4e, h2b_h4, h2f1_h4, h2a_h4, h2d_h4, h4bw]
      refine hK _ _ fun nx => ?_; clear hK K; try clear kk
      refine zi ?_; refine nmx ?_
      obtain hR := Option.some.inj hh
      subst hR
      refine kR ?_ (by rfl) ?_
      · simp only [go_sem, wu, jA, ku, ve, yP, List.map_cons, List.map_append, List.head?_cons, h1, h3]
        all_goals exact wkw
      · (try simp only [go_sem, h1, h3]); (try simp only [List.length_append, List.map_append, h4e]); all_goals exact wkb
    · rw [if_neg h3] at hh
      replace h3 := Bool.eq_false_iff.mpr h3
      refine zh (by first | exact congrArg PV.bool h3 | rfl) ?_
      refine zx ?_; refine nmx ?_
      obtain ⟨alH, h5, hh⟩ := ze hh
      obtain ⟨h5a, h5c⟩ := zX h5
      have h5d := qH (f := zn.pv) h5c
      have h5e := qG h5c
      try simp only [List.length_cons, List.length_nil, Nat.zero_add, Nat.reduceAdd] at h5a h5e
      try simp only [h5e] at h5a
      try simp only [List.map_cons, List.map_nil, List.nil_append, List.append_nil, List.cons_append, List.singleton_append, zo, pvE] at h5d
      refine zq fun K kk hK => ?_
      simp only [go_sem, h5a, h5d, h5e]
      (repeat refine sd ?_)
      refine hK _ _ fun nx => ?_; clear hK K; try clear kk
      refine nmx ?_
      obtain hR := Option.some.inj hh
      subst hR
      refine XI ?_
      refine kR ?_ (by rfl) ?_
      · simp only [go_sem, wu, jA, ku, ve, yP, List.map_cons, List.map_append, List.head?_cons, h1, h3]
        all_goals exact wkw
      · (try simp only [go_sem, h1, h3]); (try simp only [List.length_append, List.map_append, h5e]); all_goals exact wkb
  · rw [if_neg h1] at hh
    replace h1 := Bool.eq_false_iff.mpr h1
    refine zb fun K kk hK => ?_
    simp only [go_sem, h1, of_decide_eq_false h1]
    (repeat refine sd ?_)
    refine hK _ _ fun nx => ?_; clear hK K; try clear kk
    refine zh rfl ?_
    refine zx ?_; refine nmx ?_
    obtain ⟨apG, h6, hh⟩ := ze hh
    obtain ⟨h6a, h6c⟩ := zX h6
    have h6d := qH (f := zn.pv) h6c
    have h6e := qG h6c
    try simp only [List.length_cons, List.length_nil, Nat.zero_add, Nat.reduceAdd] at h6a h6e
    try simp only [h6e] at h6a
    try simp only [List.map_cons, List.map_nil, List.nil_append, List.append_nil, List.cons_append, List.singleton_append, zo, pvE] at h6d
    refine zq fun K kk hK => ?_
    simp only [go_sem, h6a, h6d, h6e]
    (repeat refine sd ?_)
    refine hK _ _ fun nx => ?_; clear hK K; try clear kk
    refine nmx ?_
    obtain hR := Option.some.inj hh
    subst hR
    refine XI ?_
    refine kR ?_ (by rfl) ?_
    · simp only [go_sem, wu, jA, ku, ve, yP, List.map_cons, List.map_append, List.head?_cons, h1]
      all_goals exact wkw
    · (try simp only [go_sem, h1]); (try simp only [List.length_append, List.map_append, h6e]); all_goals exact wkb
theorem jR (a_1 : Int) (b_2 : Int) (ae9 : (List Str)) (QW : za) (v_5 : (List Int)) (R : za) (hh : wE a_1 b_2 ae9 QW v_5 = some R) : BC Tryd.prog 114 [.int .i64 a_1, .int .i64 b_2, .list 1 (ae9.map PV.str), .box 1000 0 0, .box 1001 0 0] [.var 28 [.str QW.Kind, .str QW.Text, .list 1 (QW.Marks.map PV.str), .list 2 (QW.zt.map zf.pv), .list 5 (QW.Kids.map za.pv)], .var 65 [.list 1 (v_5.map (PV.int .i32))]] (.agg [.str R.Kind, .str R.Text, .list 1 (R.Marks.map PV.str), .list 2 (R.zt.map zf.pv), .list 5 (R.Kids.map za.pv)]) [.var 28 [.str QW.Kind, .str QW.Text, .list 1 (QW.Marks.map PV.str), .list 2 (QW.zt.map zf.pv), .list 5 (QW.Kids.map za.pv)], .var 65 [.list 1 (v_5.map (PV.int .i32))]] := by
  rw [wE] at hh
  refine Kc rfl rfl rfl ?_
  refine zb fun K kk hK => ?_
  simp only [go_sem]
  refine hK _ _ fun nx => ?_; clear hK K; try clear kk
  obtain ⟨s_6, h1, hh⟩ := ze hh
  obtain ⟨h1a, h1c⟩ := Q7 h1
  have h1g := aam h1a
  have h1d := atC (f := (PV.int .i32)) h1c
  try simp only [Int.toNat_natCast, Int.reduceToNat, List.map_cons, List.map_nil, pvE] at h1d
  refine zb fun K kk hK => ?_
  simp only [go_sem, h1a.1, h1a.2.1, h1a.2.2, h1d, h1g]
  (repeat refine sd ?_)
  refine hK _ _ fun nx => ?_; clear hK K; try clear kk
  refine zi ?_; refine nmx ?_
  obtain hR := Option.some.inj hh
  subst hR
  refine kR ?_ (by rfl) ?_
  · simp only [go_sem, wu, jA, ku, ve, yP, List.map_cons, List.map_append, List.head?_cons]
    all_goals exact wkw
  · (try simp only [go_sem]); (try simp only [List.length_append, List.map_append]); all_goals exact wkb
end Go.Proofs.YtclohbgnaopjfaaDoor
