/- Texts of the proof of stepMarksCard -/
import Derived.Test.YtclohbgnaopjfaaDoorAgC
import Derived.Test.YtclohbgnaopjfaaDoorAgF
import Derived.Test.YtclohbgnaopjfaaDoorAgK0
import Derived.Test.YtclohbgnaopjfaaDoorAgK1
import Derived.Test.YtclohbgnaopjfaaDoorAgL
namespace Go.Proofs.YtclohbgnaopjfaaDoor
set_option linter.unusedSimpArgs false
set_option linter.unusedVariables false
open Go
set_option maxRecDepth 100000
theorem QL (n_1 : za) (KG : Int) (R : (qP × Int)) (hh : yU n_1 KG = some R) : PC Tryd.prog 97 [.agg [.str n_1.Kind, .str n_1.Text, .list 1 (n_1.Marks.map PV.str), .list 2 (n_1.zu.map zg.pv), .list 5 (n_1.Kids.map za.pv)], .int .i64 KG] (.tup [.agg [.list 1 (R.1.Path.map (PV.int .i64)), .int .i64 R.1.Index, .int .i64 R.1.Offset], .int .i64 R.2]) := by
  rw [yU] at hh
  refine Yq rfl ?_
  refine zb fun K kk hK => ?_
  simp only [go_sem]
  refine hK _ _ fun nx => ?_; clear hK K; try clear kk
  refine aod ?_
  refine zk ?_
  by_cases h1 : (n_1.Kind == ([116, 101, 120, 116] : Str)) = true
  · rw [if_pos h1] at hh
    refine zb fun K kk hK => ?_
    simp only [go_sem, h1]
    (repeat refine sd ?_)
    refine hK _ _ fun nx => ?_; clear hK K; try clear kk
    refine zm rfl ?_
    refine zb fun K kk hK => ?_
    simp only [go_sem]
    refine hK _ _ fun nx => ?_; clear hK K; try clear kk
    refine zi ?_; refine nmx ?_
    obtain hR := Option.some.inj hh
    subst hR
    exact zy
  · rw [if_neg h1] at hh
    replace h1 := Bool.eq_false_iff.mpr h1
    by_cases h2 : (decide (KG < (0 : Int))) = true
    · rw [if_pos h2] at hh
      refine zb fun K kk hK => ?_
      simp only [go_sem, h1, h2, of_decide_eq_true h2]
      (repeat refine sd ?_)
      refine hK _ _ fun nx => ?_; clear hK K; try clear kk
      refine zm rfl ?_
      refine zb fun K kk hK => ?_
      simp only [go_sem]
      refine hK _ _ fun nx => ?_; clear hK K; try clear kk
      refine zi ?_; refine nmx ?_
      obtain hR := Option.some.inj hh
      subst hR
      exact zy
    · rw [if_neg h2] at hh
      replace h2 := Bool.eq_false_iff.mpr h2
      obtain ⟨Qj, h3, hh⟩ := ze hh
      refine zb fun K kk hK => ?_
      simp only [go_sem, h1, h2, of_decide_eq_false h2]
      (repeat refine sd ?_)
      refine zf (xx _ _ h3) (by (try simp only [go_sem, h1, h2, of_decide_eq_false h2]) <;> exact wkl) (by rfl) (by rfl) ?_
      simp only [go_sem, h1, h2, of_decide_eq_false h2]
      (repeat refine sd ?_)
      refine hK _ _ fun nx => ?_; clear hK K; try clear kk
      by_cases h4 : (decide (KG > Qj)) = true
      · rw [if_pos h4] at hh
        refine zm (by first | exact congrArg PV.bool h4 | rfl) ?_
        refine zb fun K kk hK => ?_
        simp only [go_sem]
        refine hK _ _ fun nx => ?_; clear hK K; try clear kk
        refine zi ?_; refine nmx ?_
        obtain hR := Option.some.inj hh
        subst hR
        exact zy
      · rw [if_neg h4] at hh
        replace h4 := Bool.eq_false_iff.mpr h4
        refine zh (by first | exact congrArg PV.bool h4 | rfl) ?_
        refine zx ?_; refine nmx ?_
        refine zb fun K kk hK => ?_
        simp only [go_sem]
        refine hK _ _ fun nx => ?_; clear hK K; try clear kk
        refine zk ?_
        refine anD ?_; refine nmx ?_
        obtain ⟨e0, f0, hh⟩ := ze hh
        refine qz (wZ (fun s => False))
          (fun i s => False)
          (fun s => ∃ Xm, Xm = e0 ∧ zQ Tryd.prog [.cell 4 149, .tmp 5] (.tup [.agg [.list 1 (Xm.1.Path.map (PV.int .i64)), .int .i64 Xm.1.Index, .int .i64 Xm.1.Offset], .int .i64 Xm.2]) [] .ret s) ?_ ?_ ?_ ?_
        · refine zC ?_
          refine qp fun I hI => ?_
          obtain ⟨k, f0⟩ := xQ f0
          have key : ∀ (k : Nat) (acC : Int) (Qn : za) (JQ : (List Int)), jR k acC Qn JQ = some e0 → ∀ (nx : Nat) (g2 : Nat) (g4 : Nat) (g6 : Nat) (g342 : Nat), I ⟨[(1, .int .i64 acC), (2, .box 2 g2 0), (4, .box 4 g4 0), (6, .box 6 g6 0)], [(2, g2, .var 28 [.str Qn.Kind, .str Qn.Text, .list 1 (Qn.Marks.map PV.str), .list 2 (Qn.zu.map zg.pv), .list 5 (Qn.Kids.map za.pv)]), (4, g4, .var 149 [.list 1 ([].map (PV.int .i64)), .int .i64 (0 : Int), .int .i64 (0 : Int)]), (6, g6, .var 149 [.row 342 g342 JQ.length, .int .i64 (0 : Int), .int .i64 (0 : Int)]), (342, g342, .row false 1 (JQ.map (PV.int .i64)))], nx⟩ := by
            intro k
            induction k with
            | zero => intro acC Qn JQ hh; rw [jR] at hh; cases hh
            | succ k ih =>
              intro acC Qn JQ hh nx g2 g4 g6 g342
              rw [jR] at hh
              refine hI _ ?_
              refine zC ?_
              refine zk ?_
              refine zb fun K kk hK => ?_
              simp only [go_sem]
              refine hK _ _ fun nx => ?_; clear hK K; try clear kk
              obtain ⟨e2, f2, hh⟩ := ze hh
              obtain ⟨hlen2, f2⟩ := zY f2
              refine qz (wZ (fun s => .inr (.inr ()) = e2 ∧ ∃ (apK : Int) (apE : Int) (atx : Bool) (nx : Nat) (g2 : Nat) (g4 : Nat) (g6 : Nat) (g342 : Nat), s = ⟨[(1, .int .i64 apK), (2, .box 2 g2 0), (4, .box 4 g4 0), (6, .box 6 g6 0), (26, .list 5 (Qn.Kids.map za.pv)), (27, .int .i64 (Qn.Kids.length : Int)), (28, .int .i64 apE), (29, .bool atx)], [(2, g2, .var 28 [.str Qn.Kind, .str Qn.Text, .list 1 (Qn.Marks.map PV.str), .list 2 (Qn.zu.map zg.pv), .list 5 (Qn.Kids.map za.pv)]), (4, g4, .var 149 [.list 1 ([].map (PV.int .i64)), .int .i64 (0 : Int), .int .i64 (0 : Int)]), (6, g6, .var 149 [.row 342 g342 JQ.length, .int .i64 (0 : Int), .int .i64 (0 : Int)]), (342, g342, .row false 1 (JQ.map (PV.int .i64)))], nx⟩))
                (fun i s => (i = 1 ∧ ∃ afC, ∃ ajm, ∃ XP, .inr (.inl (afC, ajm, XP)) = e2 ∧ ∃ (nx : Nat) (g2 : Nat) (g4 : Nat) (g6 : Nat) (g342 : Nat), s = ⟨[(1, .int .i64 afC), (2, .box 2 g2 0), (4, .box 4 g4 0), (6, .box 6 g6 0)], [(2, g2, .var 28 [.str ajm.Kind, .str ajm.Text, .list 1 (ajm.Marks.map PV.str), .list 2 (ajm.zu.map zg.pv), .list 5 (ajm.Kids.map za.pv)]), (4, g4, .var 149 [.list 1 ([].map (PV.int .i64)), .int .i64 (0 : Int), .int .i64 (0 : Int)]), (6, g6, .var 149 [.row 342 g342 XP.length, .int .i64 (0 : Int), .int .i64 (0 : Int)]), (342, g342, .row false 1 (XP.map (PV.int .i64)))], nx⟩))
                (fun s => ∃ XV, .inl XV = e2 ∧ zQ Tryd.prog [.cell 4 149, .tmp 5] (.tup [.agg [.list 1 (XV.1.Path.map (PV.int .i64)), .int .i64 XV.1.Index, .int .i64 XV.1.Offset], .int .i64 XV.2]) [] .ret s) ?_ ?_ ?_ ?_
              · refine zC ?_
                refine qp fun I hI => ?_
                have key : ∀ (suf pre : List za) (aes : Int) (QQ : Int), Qn.Kids = pre ++ suf → aes = (pre.length : Int) → jX JQ suf aes QQ = some e2 → ∀ (nx : Nat) (g2 : Nat) (g4 : Nat) (g6 : Nat) (g342 : Nat), I ⟨[(1, .int .i64 QQ), (2, .box 2 g2 0), (4, .box 4 g4 0), (6, .box 6 g6 0), (26, .list 5 (Qn.Kids.map za.pv)), (27, .int .i64 (Qn.Kids.length : Int)), (28, .int .i64 aes)], [(2, g2, .var 28 [.str Qn.Kind, .str Qn.Text, .list 1 (Qn.Marks.map PV.str), .list 2 (Qn.zu.map zg.pv), .list 5 (Qn.Kids.map za.pv)]), (4, g4, .var 149 [.list 1 ([].map (PV.int .i64)), .int .i64 (0 : Int), .int .i64 (0 : Int)]), (6, g6, .var 149 [.row 342 g342 JQ.length, .int .i64 (0 : Int), .int .i64 (0 : Int)]), (342, g342, .row false 1 (JQ.map (PV.int .i64)))], nx⟩ := by
                  intro suf
                  induction suf with
                  | nil =>
                    intro pre aes QQ hsplit hidx hh nx g2 g4 g6 g342
                    rw [jX] at hh
                    refine hI _ ?_
                    have h39 := walk_nil hsplit hidx
                    refine zb fun K kk hK => ?_
                    simp only [go_sem]
                    refine hK _ _ fun nx => ?_; clear hK K; try clear kk
                    refine zk ?_
                    refine zh (by first | exact congrArg PV.bool h39 | rfl) ?_
                    refine qa ?_; refine nmx ?_
                    refine kF ?_
                    refine zH ?_
                    refine ⟨(Option.some.inj hh), ?_⟩
                    first | exact ⟨_, _, _, _, _, _, _, _, rfl⟩ | (simp only [pvE, lsE, zn]; exact ⟨_, _, _, _, _, _, _, _, rfl⟩) | (simp only [pvE, lsE, zn, h1, h2, h39, h4]; exact ⟨_, _, _, _, _, _, _, _, rfl⟩)
                  | cons aoc suf ih =>
                    intro pre aes QQ hsplit hidx hh nx g2 g4 g6 g342
                    rw [jX] at hh
                    refine hI _ ?_
                    obtain ⟨hl2a, hl2b, hl2d, hl2w, h39⟩ := qF (f := za.pv) hsplit hidx hlen2
                    refine zb fun K kk hK => ?_
                    simp only [go_sem]
                    refine hK _ _ fun nx => ?_; clear hK K; try clear kk
                    refine zk ?_
                    refine zm (by first | exact congrArg PV.bool h39 | rfl) ?_
                    refine zx ?_; refine nmx ?_
                    refine zk ?_
                    refine zC ?_
                    refine zb fun K kk hK => ?_
                    simp only [go_sem, hl2a, hl2b, hl2d, hl2w]
                    refine hK _ _ fun nx => ?_; clear hK K; try clear kk
                    obtain ⟨aeC, h40, hh⟩ := ze hh
                    refine zb fun K kk hK => ?_
                    simp only [go_sem, hl2a, hl2b, hl2d, hl2w]
                    refine zf (ZW _ _ h40) (by (try simp only [go_sem, hl2a, hl2b, hl2d, hl2w]) <;> exact wkl) (by rfl) (by rfl) ?_
                    simp only [go_sem, hl2a, hl2b, hl2d, hl2w]
                    refine hK _ _ fun nx => ?_; clear hK K; try clear kk
                    refine zC ?_
                    refine zb fun K kk hK => ?_
                    simp only [go_sem, hl2a, hl2b, hl2d, hl2w]
                    refine hK _ _ fun nx => ?_; clear hK K; try clear kk
                    by_cases h41 : (decide (QQ ≥ aeC)) = true
                    · rw [if_pos h41] at hh
                      refine zm (by first | exact congrArg PV.bool h41 | rfl) ?_
                      refine zq fun K kk hK => ?_
                      simp only [go_sem, hl2a, hl2b, hl2d, hl2w]
                      refine hK _ _ fun nx => ?_; clear hK K; try clear kk
                      refine nmx ?_
                      refine zq fun K kk hK => ?_
                      simp only [go_sem, hl2a, hl2b, hl2d, hl2w]
                      refine hK _ _ fun nx => ?_; clear hK K; try clear kk
                      refine nmx ?_
                      have ih' := ih (pre ++ [aoc]) (aes + 1) _ (by rw [hsplit]; simp) (by simp [hidx]) hh nx
                      refine zH ?_
                      first | exact ih' _ _ _ _ | (simp only [pvE, lsE, zn] at ih' ⊢; exact ih' _ _ _ _) | (simp only [pvE, lsE, zn, h1, h2, h39, h4, h41] at ih' ⊢; exact ih' _ _ _ _)
                    · rw [if_neg h41] at hh
                      replace h41 := Bool.eq_false_iff.mpr h41
                      refine zh (by first | exact congrArg PV.bool h41 | rfl) ?_
                      refine zb fun K kk hK => ?_
                      simp only [go_sem, hl2a, hl2b, hl2d, hl2w]
                      refine hK _ _ fun nx => ?_; clear hK K; try clear kk
                      by_cases h42 : (aoc.Kind == ([116, 101, 120, 116] : Str)) = true
                      · rw [if_pos h42] at hh
                        refine zm (by first | exact congrArg PV.bool h42 | rfl) ?_
                        refine zb fun K kk hK => ?_
                        simp only [go_sem, hl2a, hl2b, hl2d, hl2w]
                        refine hK _ _ fun nx => ?_; clear hK K; try clear kk
                        refine zb fun K kk hK => ?_
                        simp only [go_sem, hl2a, hl2b, hl2d, hl2w]
                        refine hK _ _ fun nx => ?_; clear hK K; try clear kk
                        refine zi ?_; refine nmx ?_
                        refine Z8 ⟨_, (Option.some.inj hh), ?_⟩
                        exact zy
                      · rw [if_neg h42] at hh
                        replace h42 := Bool.eq_false_iff.mpr h42
                        refine zh (by first | exact congrArg PV.bool h42 | rfl) ?_
                        refine zb fun K kk hK => ?_
                        simp only [go_sem, hl2a, hl2b, hl2d, hl2w]
                        refine hK _ _ fun nx => ?_; clear hK K; try clear kk
                        by_cases h43 : (QQ == (0 : Int)) = true
                        · rw [if_pos h43] at hh
                          refine zm (by first | exact congrArg PV.bool h43 | rfl) ?_
                          refine zb fun K kk hK => ?_
                          simp only [go_sem, hl2a, hl2b, hl2d, hl2w]
                          refine hK _ _ fun nx => ?_; clear hK K; try clear kk
                          refine zb fun K kk hK => ?_
                          simp only [go_sem, hl2a, hl2b, hl2d, hl2w]
                          refine hK _ _ fun nx => ?_; clear hK K; try clear kk
                          refine zi ?_; refine nmx ?_
                          refine Z8 ⟨_, (Option.some.inj hh), ?_⟩
                          exact zy
                        · rw [if_neg h43] at hh
                          replace h43 := Bool.eq_false_iff.mpr h43
                          refine zh (by first | exact congrArg PV.bool h43 | rfl) ?_
                          obtain ⟨apJ, h44, hh⟩ := ze hh
                          obtain ⟨h44a, h44c⟩ := zV h44
                          have h44d := qE (f := (PV.int .i64)) h44c
                          have h44e := qH h44c
                          try simp only [List.length_cons, List.length_nil, Nat.zero_add, Nat.reduceAdd] at h44a h44e
                          try simp only [h44e] at h44a
                          try simp only [List.map_cons, List.map_nil, List.nil_append, List.append_nil, List.cons_append, List.singleton_append, zn, pvE] at h44d
                          refine zb fun K kk hK => ?_
                          simp only [go_sem, h44a, h44d, h44e, hl2a, hl2b, hl2d, hl2w]
                          (repeat refine sd ?_)
                          refine hK _ _ fun nx => ?_; clear hK K; try clear kk
                          refine zb fun K kk hK => ?_
                          simp only [go_sem, hl2a, hl2b, hl2d, hl2w]
                          refine hK _ _ fun nx => ?_; clear hK K; try clear kk
                          refine qa ?_; refine nmx ?_
                          refine aoD ⟨rfl, _, _, _, (Option.some.inj hh), ?_⟩
                          first | exact ⟨_, _, _, _, _, rfl⟩ | (simp only [pvE, lsE, zn, h44e]; exact ⟨_, _, _, _, _, rfl⟩) | (simp only [pvE, lsE, zn, h44e, h1, h2, h39, h4, h41, h42, h43]; exact ⟨_, _, _, _, _, rfl⟩)
                exact key Qn.Kids [] _ _ rfl rfl f2 _ _ _ _ _
              · rintro s ⟨t, hless, rfl, apK, apE, atx, nx, g2, g4, g6, g342, rfl⟩
                try dsimp only at hh
                refine nmy ?_
                first | (refine wu hless ?_; try refine ko ?_) | refine qG hless ?_ | refine qI hless ?_
                refine zb fun K kk hK => ?_
                simp only [go_sem]
                refine hK _ _ fun nx => ?_; clear hK K; try clear kk
                refine zb fun K kk hK => ?_
                simp only [go_sem]
                refine hK _ _ fun nx => ?_; clear hK K; try clear kk
                refine zi ?_; refine nmx ?_
                refine Z8 ⟨_, (Option.some.inj hh), ?_⟩
                exact zy
              · intro i s h
                obtain ⟨rfl, afC, ajm, XP, rfl, nx, g2, g4, g6, g342, rfl⟩ := h
                try dsimp only at hh
                refine nmx ?_
                have ih' := ih _ _ _ hh nx
                refine zH ?_
                first | exact ih' _ _ _ _ | (simp only [pvE, lsE, zn] at ih' ⊢; exact ih' _ _ _ _) | (simp only [pvE, lsE, zn, h1, h2, h4] at ih' ⊢; exact ih' _ _ _ _)
              · rintro s ⟨XV, rfl, hb⟩
                try dsimp only at hh
                refine nmx ?_
                exact Z8 ⟨_, (Option.some.inj hh), hb⟩
          exact key _ _ _ _ f0 _ _ _ _ _
        · rintro s ⟨_, _, h⟩; exact h.elim
        · intro i s h; exact h.elim
        · rintro s ⟨Xm, rfl, hb⟩
          try dsimp only at hh
          obtain hR := Option.some.inj hh
          subst hR
          refine nmx ?_
          exact hb
theorem aeV (n_1 : za) (KG : Int) (R : ((List Int) × Bool)) (hh : XC n_1 KG = some R) : PC Tryd.prog 74 [.agg [.str n_1.Kind, .str n_1.Text, .list 1 (n_1.Marks.map PV.str), .list 2 (n_1.zu.map zg.pv), .list 5 (n_1.Kids.map za.pv)], .int .i64 KG] (.tup [.list 1 (R.1.map (PV.int .i64)), .bool R.2]) := by
  rw [XC] at hh
  refine aaW rfl ?_
  refine zb fun K kk hK => ?_
  simp only [go_sem]
  refine hK _ _ fun nx => ?_; clear hK K; try clear kk
  refine zk ?_
  refine zb fun K kk hK => ?_
  simp only [go_sem]
  refine hK _ _ fun nx => ?_; clear hK K; try clear kk
  by_cases h1 : (KG == (-1 : Int)) = true
  · rw [if_pos h1] at hh
    refine zm (by first | exact congrArg PV.bool h1 | rfl) ?_
    refine zb fun K kk hK => ?_
    simp only [go_sem]
    refine hK _ _ fun nx => ?_; clear hK K; try clear kk
    refine zi ?_; refine nmx ?_
    obtain hR := Option.some.inj hh
    subst hR
    exact zy
  · rw [if_neg h1] at hh
    replace h1 := Bool.eq_false_iff.mpr h1
    refine zh (by first | exact congrArg PV.bool h1 | rfl) ?_
    refine zx ?_; refine nmx ?_
    obtain ⟨⟨r_3, r_4⟩, h2, hh⟩ := ze hh
    dsimp only at hh
    refine zb fun K kk hK => ?_
    simp only [go_sem]
    refine zf (QL _ _ _ h2) (by (try simp only [go_sem]) <;> exact wkl) (by rfl) (by rfl) ?_
    simp only [go_sem]
    refine hK _ _ fun nx => ?_; clear hK K; try clear kk
    refine zk ?_
    by_cases h3 : (r_4 != (0 : Int)) = true
    · rw [if_pos h3] at hh
      refine zb fun K kk hK => ?_
      simp only [go_sem, h3]
      (repeat refine sd ?_)
      refine hK _ _ fun nx => ?_; clear hK K; try clear kk
      refine zm rfl ?_
      refine zb fun K kk hK => ?_
      simp only [go_sem]
      refine hK _ _ fun nx => ?_; clear hK K; try clear kk
      refine zi ?_; refine nmx ?_
      obtain hR := Option.some.inj hh
      subst hR
      exact zy
    · rw [if_neg h3] at hh
      replace h3 := Bool.eq_false_iff.mpr h3
      refine zb fun K kk hK => ?_
      simp only [go_sem, h3]
      (repeat refine sd ?_)
      refine hK _ _ fun nx => ?_; clear hK K; try clear kk
      by_cases h4 : (decide (r_3.Offset > (0 : Int))) = true
      · rw [if_pos h4] at hh
        refine zm (by first | exact congrArg PV.bool h4 | rfl) ?_
        refine zb fun K kk hK => ?_
        simp only [go_sem]
        refine hK _ _ fun nx => ?_; clear hK K; try clear kk
        refine zi ?_; refine nmx ?_
        obtain hR := Option.some.inj hh
        subst hR
        exact zy
      · rw [if_neg h4] at hh
        replace h4 := Bool.eq_false_iff.mpr h4
        refine zh (by first | exact congrArg PV.bool h4 | rfl) ?_
        refine zx ?_; refine nmx ?_
        obtain ⟨arW, h5, hh⟩ := ze hh
        obtain ⟨l_6, h6, hh⟩ := ze hh
        obtain ⟨h6a, h6c⟩ := zV h6
        have h6d := qE (f := (PV.int .i64)) h6c
        have h6e := qH h6c
        try simp only [List.length_cons, List.length_nil, Nat.zero_add, Nat.reduceAdd] at h6a h6e
        try simp only [h6e] at h6a
        try simp only [List.map_cons, List.map_nil, List.nil_append, List.append_nil, List.cons_append, List.singleton_append, zn, pvE] at h6d
        refine zb fun K kk hK => ?_
        simp only [go_sem, h6a, h6d, h6e]
        (repeat refine sd ?_)
        refine aax [] (by decide) (by decide) (Yo _ _ h5) (by (try simp only [go_sem, h6a, h6d, h6e, h1, h3, h4]) <;> exact wkb) (by rfl) (by rfl) ?_
        simp only [go_sem, h6a, h6d, h6e]
        (repeat refine sd ?_)
        refine hK _ _ fun nx => ?_; clear hK K; try clear kk
        obtain ⟨⟨r_7, r_8⟩, h7, hh⟩ := ze hh
        dsimp only at hh
        refine zb fun K kk hK => ?_
        simp only [go_sem]
        refine zf (xO _ _ _ h7) (by (try simp only [go_sem]) <;> exact wkl) (by rfl) (by rfl) ?_
        simp only [go_sem]
        refine hK _ _ fun nx => ?_; clear hK K; try clear kk
        refine zb fun K kk hK => ?_
        simp only [go_sem]
        refine hK _ _ fun nx => ?_; clear hK K; try clear kk
        refine zi ?_; refine nmx ?_
        obtain hR := Option.some.inj hh
        subst hR
        exact zy
theorem aev (a_1 : zg) (qC : zD) (R : Bool) (hh : JE a_1 qC = some R) : BC Tryd.prog 77 [.agg [.str a_1.Name, .str a_1.Value], .box 1000 0 0] [.var 39 [.int .u8 qC.Kind, .int .i64 qC.From, .int .i64 qC.To, .list 5 (qC.wM.map za.pv), .str qC.Name, .str qC.Value]] (.bool R) [.var 39 [.int .u8 qC.Kind, .int .i64 qC.From, .int .i64 qC.To, .list 5 (qC.wM.map za.pv), .str qC.Name, .str qC.Value]] := by
  rw [JE] at hh
  refine aaP rfl rfl rfl ?_
  refine zb fun K kk hK => ?_
  simp only [go_sem]
  refine hK _ _ fun nx => ?_; clear hK K; try clear kk
  refine zb fun K kk hK => ?_
  simp only [go_sem]
  refine hK _ _ fun nx => ?_; clear hK K; try clear kk
  refine zi ?_; refine nmx ?_
  obtain hR := Option.some.inj hh
  subst hR
  refine kH ?_ (by rfl) ?_
  · simp only [go_sem, wo, jo, wX, kS, yC, List.map_cons, List.map_append, List.head?_cons]
    all_goals exact wkw
  · (try simp only [go_sem]); (try simp only [List.length_append, List.map_append]); all_goals exact wkb
theorem QI (s_1 : (List zg)) (qC : zD) (R : (Int × zD)) (hh : vS s_1 qC = some R) : BC Tryd.prog 76 [.list 2 (s_1.map zg.pv), .fn 77 [.box 1000 0 0]] [.var 39 [.int .u8 qC.Kind, .int .i64 qC.From, .int .i64 qC.To, .list 5 (qC.wM.map za.pv), .str qC.Name, .str qC.Value]] (.int .i64 R.1) [.var 39 [.int .u8 R.2.Kind, .int .i64 R.2.From, .int .i64 R.2.To, .list 5 (R.2.wM.map za.pv), .str R.2.Name, .str R.2.Value]] := by
  rw [vS] at hh
  refine ZL rfl rfl rfl ?_
  refine zb fun K kk hK => ?_
  simp only [go_sem]
  refine hK _ _ fun nx => ?_; clear hK K; try clear kk
  refine zk ?_
  refine zb fun K kk hK => ?_
  simp only [go_sem]
  refine hK _ _ fun nx => ?_; clear hK K; try clear kk
  obtain ⟨e0, f0, hh⟩ := ze hh
  obtain ⟨hlen0, f0⟩ := zY f0
  refine qz (wZ (fun s => .inr () = e0 ∧ ∃ (QH : Int) (Wj : Bool) (nx : Nat), s = ⟨[(0, .list 2 (s_1.map zg.pv)), (1, .fn 77 [.box 1000 0 0]), (7, .int .i64 (s_1.length : Int)), (8, .int .i64 QH), (9, .bool Wj)], [(1000, 0, .var 39 [.int .u8 qC.Kind, .int .i64 qC.From, .int .i64 qC.To, .list 5 (qC.wM.map za.pv), .str qC.Name, .str qC.Value])], nx⟩))
    (fun i s => False)
    (fun s => ∃ wG, .inl wG = e0 ∧ zQ Tryd.prog [.tmp 4] (.int .i64 wG.1) [.var 39 [.int .u8 wG.2.Kind, .int .i64 wG.2.From, .int .i64 wG.2.To, .list 5 (wG.2.wM.map za.pv), .str wG.2.Name, .str wG.2.Value]] .ret s) ?_ ?_ ?_ ?_
  · refine zC ?_
    refine qp fun I hI => ?_
    have key : ∀ (suf pre : List zg) (v_5 : Int), s_1 = pre ++ suf → v_5 = (pre.length : Int) → qR qC suf v_5 = some e0 → ∀ (nx : Nat), I ⟨[(0, .list 2 (s_1.map zg.pv)), (1, .fn 77 [.box 1000 0 0]), (7, .int .i64 (s_1.length : Int)), (8, .int .i64 v_5)], [(1000, 0, .var 39 [.int .u8 qC.Kind, .int .i64 qC.From, .int .i64 qC.To, .list 5 (qC.wM.map za.pv), .str qC.Name, .str qC.Value])], nx⟩ := by
      intro suf
      induction suf with
      | nil =>
        intro pre v_5 hsplit hidx hh nx
        rw [qR] at hh
        refine hI _ ?_
        have h9 := walk_nil hsplit hidx
        refine zb fun K kk hK => ?_
        simp only [go_sem]
        refine hK _ _ fun nx => ?_; clear hK K; try clear kk
        refine zk ?_
        refine zh (by first | exact congrArg PV.bool h9 | rfl) ?_
        refine qa ?_; refine nmx ?_
        refine kF ?_
        refine zH ?_
        refine ⟨(Option.some.inj hh), ?_⟩
        first | exact ⟨_, _, _, rfl⟩ | (simp only [pvE, lsE, zn]; exact ⟨_, _, _, rfl⟩) | (simp only [pvE, lsE, zn, h9]; exact ⟨_, _, _, rfl⟩)
      | cons y_8 suf ih =>
        intro pre v_5 hsplit hidx hh nx
        rw [qR] at hh
        refine hI _ ?_
        obtain ⟨hl0a, hl0b, hl0d, hl0w, h9⟩ := qF (f := zg.pv) hsplit hidx hlen0
        refine zb fun K kk hK => ?_
        simp only [go_sem]
        refine hK _ _ fun nx => ?_; clear hK K; try clear kk
        refine zk ?_
        refine zm (by first | exact congrArg PV.bool h9 | rfl) ?_
        refine zx ?_; refine nmx ?_
        refine zk ?_
        refine zC ?_
        refine zb fun K kk hK => ?_
        simp only [go_sem, hl0a, hl0b, hl0d, hl0w]
        refine hK _ _ fun nx => ?_; clear hK K; try clear kk
        obtain ⟨asx, h10, hh⟩ := ze hh
        refine zb fun K kk hK => ?_
        simp only [go_sem, hl0a, hl0b, hl0d, hl0w]
        refine jb [1000] (by decide) (aev _ _ _ h10) (by (try simp only [go_sem, hl0a, hl0b, hl0d, hl0w, h9]) <;> exact wkb) (by rfl) ?_
        simp only [go_sem, hl0a, hl0b, hl0d, hl0w]
        refine hK _ _ fun nx => ?_; clear hK K; try clear kk
        by_cases h11 : (asx) = true
        · rw [if_pos h11] at hh
          refine zm (by first | exact congrArg PV.bool h11 | rfl) ?_
          refine zb fun K kk hK => ?_
          simp only [go_sem, hl0a, hl0b, hl0d, hl0w]
          refine hK _ _ fun nx => ?_; clear hK K; try clear kk
          refine zi ?_; refine nmx ?_
          refine Z8 ⟨_, (Option.some.inj hh), ?_⟩
          refine kH ?_ (by rfl) ?_
          · simp only [go_sem, wo, jo, wX, kS, yC, List.map_cons, List.map_append, List.head?_cons, h11, h9]
            all_goals exact wkw
          · (try simp only [go_sem, h11, h9]); (try simp only [List.length_append, List.map_append]); all_goals exact wkb
        · rw [if_neg h11] at hh
          replace h11 := Bool.eq_false_iff.mpr h11
          refine zh (by first | exact congrArg PV.bool h11 | rfl) ?_
          refine zx ?_; refine nmx ?_
          refine zq fun K kk hK => ?_
          simp only [go_sem, hl0a, hl0b, hl0d, hl0w]
          refine hK _ _ fun nx => ?_; clear hK K; try clear kk
          refine nmx ?_
          have ih' := ih (pre ++ [y_8]) (v_5 + 1) (by rw [hsplit]; simp) (by simp [hidx]) hh nx
          refine zH ?_
          first | exact ih' | (simp only [pvE, lsE, zn] at ih' ⊢; exact ih') | (simp only [pvE, lsE, zn, h11, h9] at ih' ⊢; exact ih')
    exact key s_1 [] _ rfl rfl f0 _
  · rintro s ⟨t, hless, rfl, QH, Wj, nx, rfl⟩
    try dsimp only at hh
    refine nmy ?_
    first | (refine wu hless ?_; try refine ko ?_) | refine qG hless ?_ | refine qI hless ?_
    refine zb fun K kk hK => ?_
    simp only [go_sem]
    refine hK _ _ fun nx => ?_; clear hK K; try clear kk
    refine zi ?_; refine nmx ?_
    obtain hR := Option.some.inj hh
    subst hR
    refine kH ?_ (by rfl) ?_
    · simp only [go_sem, wo, jo, wX, kS, yC, List.map_cons, List.map_append, List.head?_cons]
      all_goals exact wkw
    · (try simp only [go_sem]); (try simp only [List.length_append, List.map_append]); all_goals exact wkb
  · intro i s h; exact h.elim
  · rintro s ⟨wG, rfl, hb⟩
    try dsimp only at hh
    obtain hR := Option.some.inj hh
    subst hR
    refine nmx ?_
    exact hb
theorem jJ (l : (List za)) (R : (List za)) (hh : kQ l = some R) : PC Tryd.prog 71 [.list 5 (l.map za.pv)] (.own 5 (R.map za.pv)) := by
 rw [kQ] at hh
 obtain ⟨ha, hb⟩ := zV hh
 rw [List.nil_append] at hb
 subst hb
 try simp only [List.length_nil, Nat.zero_add] at ha
 refine WT rfl ?_
 refine zb fun K kk hK => ?_
 simp only [go_sem]
 refine hK _ _ fun nx => ?_; clear hK K; try clear kk
 refine zb fun K kk hK => ?_
 simp only [go_sem]
 refine ⟨fun hnil => hK _ _ fun nx => ?_, hK _ _ fun nx => ?_⟩ <;> (clear hK K; try clear kk)
 ·have hl : l = [] := by simpa using hnil
  subst hl
  first | refine zm rfl ?_ | (refine zk ?_; refine zm rfl ?_)
  refine zb fun K kk hK => ?_
  simp only [go_sem]
  refine hK _ _ fun nx => ?_; clear hK K; try clear kk
  refine zi ?_; refine nmx ?_
  exact Xn rfl
 ·first | refine zh rfl ?_ | (refine zk ?_; refine zh rfl ?_)
  refine zx ?_; refine nmx ?_
  refine zb fun K kk hK => ?_
  simp only [go_sem, ha]
  refine hK _ _ fun nx => ?_; clear hK K; try clear kk
  refine zi ?_; refine nmx ?_
  exact Yf (by rfl) (by rfl) (by rfl) (by simp) (by rfl)
theorem aga : ∀ kr : Nat, (∀ (n_1 : za) (qV : (List Int)) (m_3 : za) (R : (za × Int)), Qa kr n_1 qV m_3 = some R → PC Tryd.prog 78 [.agg [.str n_1.Kind, .str n_1.Text, .list 1 (n_1.Marks.map PV.str), .list 2 (n_1.zu.map zg.pv), .list 5 (n_1.Kids.map za.pv)], .list 1 (qV.map (PV.int .i64)), .agg [.str m_3.Kind, .str m_3.Text, .list 1 (m_3.Marks.map PV.str), .list 2 (m_3.zu.map zg.pv), .list 5 (m_3.Kids.map za.pv)]] (.tup [.agg [.str R.1.Kind, .str R.1.Text, .list 1 (R.1.Marks.map PV.str), .list 2 (R.1.zu.map zg.pv), .list 5 (R.1.Kids.map za.pv)], .int .i64 R.2])) := by
  intro kr
  induction kr with
  | zero => exact (by intro n_1 qV m_3 R hh; rw [Qa] at hh; cases hh)
  | succ kr ih =>
    have ih_place_With := ih
    clear ih
    intro n_1 qV m_3 R hh
    rw [Qa] at hh
    refine acW rfl ?_
    refine zb fun K kk hK => ?_
    simp only [go_sem]
    refine hK _ _ fun nx => ?_; clear hK K; try clear kk
    refine zk ?_
    obtain ⟨⟨r_4, r_5⟩, h1, hh⟩ := ze hh
    dsimp only at hh
    refine zb fun K kk hK => ?_
    simp only [go_sem]
    refine zf (xO _ _ _ h1) (by (try simp only [go_sem]) <;> exact wkl) (by rfl) (by rfl) ?_
    simp only [go_sem]
    refine hK _ _ fun nx => ?_; clear hK K; try clear kk
    refine zb fun K kk hK => ?_
    simp only [go_sem]
    refine hK _ _ fun nx => ?_; clear hK K; try clear kk
    by_cases h2 : (r_5 != (0 : Int)) = true
    · rw [if_pos h2] at hh
      refine zm (by first | exact congrArg PV.bool h2 | rfl) ?_
      refine zb fun K kk hK => ?_
      simp only [go_sem]
      refine hK _ _ fun nx => ?_; clear hK K; try clear kk
      refine zi ?_; refine nmx ?_
      obtain hR := Option.some.inj hh
      subst hR
      exact zy
    · rw [if_neg h2] at hh
      replace h2 := Bool.eq_false_iff.mpr h2
      refine zh (by first | exact congrArg PV.bool h2 | rfl) ?_
      refine zx ?_; refine nmx ?_
      refine zk ?_
      refine zb fun K kk hK => ?_
      simp only [go_sem]
      refine hK _ _ fun nx => ?_; clear hK K; try clear kk
      by_cases h3 : ((qV.length : Int) == (0 : Int)) = true
      · rw [if_pos h3] at hh
        refine zm (by first | exact congrArg PV.bool h3 | rfl) ?_
        refine zb fun K kk hK => ?_
        simp only [go_sem]
        refine hK _ _ fun nx => ?_; clear hK K; try clear kk
        refine zi ?_; refine nmx ?_
        obtain hR := Option.some.inj hh
        subst hR
        exact zy
      · rw [if_neg h3] at hh
        replace h3 := Bool.eq_false_iff.mpr h3
        refine zh (by first | exact congrArg PV.bool h3 | rfl) ?_
        refine zx ?_; refine nmx ?_
        obtain ⟨alg, h4, hh⟩ := ze hh
        refine zb fun K kk hK => ?_
        simp only [go_sem]
        refine zf (jJ _ _ h4) (by (try simp only [go_sem]) <;> exact wkl) (by rfl) (by rfl) ?_
        simp only [go_sem]
        refine hK _ _ fun nx => ?_; clear hK K; try clear kk
        obtain ⟨x_7, h5, hh⟩ := ze hh
        obtain ⟨h5a, h5b, h5c⟩ := rd_some h5
        have h5d := vz (f := (PV.int .i64)) h5c
        have h5f := wY (f := (PV.int .i64)) h5c
        try simp only [Int.toNat_natCast, Int.reduceToNat] at h5d h5f
        obtain ⟨x_8, h6, hh⟩ := ze hh
        obtain ⟨h6a, h6b, h6c⟩ := rd_some h6
        have h6d := vz (f := za.pv) h6c
        have h6f := wY (f := za.pv) h6c
        try simp only [Int.toNat_natCast, Int.reduceToNat] at h6d h6f
        obtain ⟨s_9, h7, hh⟩ := ze hh
        obtain ⟨h7a, h7c⟩ := QS h7
        have h7g := YD h7a
        have h7d := aiW (f := (PV.int .i64)) h7c
        try simp only [Int.toNat_natCast, Int.reduceToNat, List.map_cons, List.map_nil, pvE] at h7d
        obtain ⟨⟨V8, abU⟩, h8, hh⟩ := ze hh
        dsimp only at hh
        obtain ⟨aj9, h9, hh⟩ := ze hh
        obtain ⟨h9a, h9c⟩ := Yl h9
        have h9d := acT (f := za.pv) h9c
        try simp only [Int.toNat_natCast, Int.reduceToNat, List.map_cons, List.map_nil, List.cons_append, List.nil_append, List.singleton_append, pvE] at h9d
        have h9e := adq h9c
        have h6b_h9 := h6b; rw [h9e] at h6b_h9
        have h6f1_h9 := h6f.1; rw [h9e] at h6f1_h9
        have h6a_h9 := h6a; try rw [h9e] at h6a_h9
        have h6d_h9 := h6d; try rw [h9e] at h6d_h9
        try rw [h9e] at h9d
        have h9bw := h9a.2; rw [h9e] at h9bw
        refine zb fun K kk hK => ?_
        simp only [go_sem, h5a, h5b, h5d, h5f.1, h5f.2, h6a, h6b, h6d, h6f.1, h6f.2, h7a.1, h7a.2.1, h7a.2.2, h7d, h7g, h9a.1, h9a.2, h9d, h9e, h6b_h9, h6f1_h9, h6a_h9, h6d_h9, h9bw]
        (repeat refine sd ?_)
        refine zf (ih_place_With _ _ _ _ h8) (by (try simp only [go_sem, h5a, h5b, h5d, h5f.1, h5f.2, h6a, h6b, h6d, h6f.1, h6f.2, h7a.1, h7a.2.1, h7a.2.2, h7d, h7g, h9a.1, h9a.2, h9d, h9e, h6b_h9, h6f1_h9, h6a_h9, h6d_h9, h9bw]) <;> exact wkl) (by rfl) (by rfl) ?_
        simp only [go_sem, h5a, h5b, h5d, h5f.1, h5f.2, h6a, h6b, h6d, h6f.1, h6f.2, h7a.1, h7a.2.1, h7a.2.2, h7d, h7g, h9a.1, h9a.2, h9d, h9e, h6b_h9, h6f1_h9, h6a_h9, h6d_h9, h9bw]
        (repeat refine sd ?_)
        try simp only [go_sem, h5a, h5b, h5d, h5f.1, h5f.2, h6a, h6b, h6d, h6f.1, h6f.2, h7a.1, h7a.2.1, h7a.2.2, h7d, h7g, h9a.1, h9a.2, h9d, h9e, h6b_h9, h6f1_h9, h6a_h9, h6d_h9, h9bw]
        refine hK _ _ fun nx => ?_; clear hK K; try clear kk
        refine zb fun K kk hK => ?_
        simp only [go_sem]
        refine hK _ _ fun nx => ?_; clear hK K; try clear kk
        refine zi ?_; refine nmx ?_
        obtain hR := Option.some.inj hh
        subst hR
        exact zy
theorem YP (n_1 : za) (qV : (List Int)) (m_3 : za) (R : (za × Int)) (hh : Jq n_1 qV m_3 = some R) : PC Tryd.prog 78 [.agg [.str n_1.Kind, .str n_1.Text, .list 1 (n_1.Marks.map PV.str), .list 2 (n_1.zu.map zg.pv), .list 5 (n_1.Kids.map za.pv)], .list 1 (qV.map (PV.int .i64)), .agg [.str m_3.Kind, .str m_3.Text, .list 1 (m_3.Marks.map PV.str), .list 2 (m_3.zu.map zg.pv), .list 5 (m_3.Kids.map za.pv)]] (.tup [.agg [.str R.1.Kind, .str R.1.Text, .list 1 (R.1.Marks.map PV.str), .list 2 (R.1.zu.map zg.pv), .list 5 (R.1.Kids.map za.pv)], .int .i64 R.2]) := by
 rw [Jq] at hh
 obtain ⟨kr, hh⟩ := xQ hh
 exact (aga kr) _ _ _ _ hh
theorem aky (n_1 : za) (s_2 : zD) (R : (za × Str × Int)) (hh : ab3 n_1 s_2 = some R) : PC Tryd.prog 46 [.agg [.str n_1.Kind, .str n_1.Text, .list 1 (n_1.Marks.map PV.str), .list 2 (n_1.zu.map zg.pv), .list 5 (n_1.Kids.map za.pv)], .agg [.int .u8 s_2.Kind, .int .i64 s_2.From, .int .i64 s_2.To, .list 5 (s_2.wM.map za.pv), .str s_2.Name, .str s_2.Value]] (.tup [.agg [.str R.1.Kind, .str R.1.Text, .list 1 (R.1.Marks.map PV.str), .list 2 (R.1.zu.map zg.pv), .list 5 (R.1.Kids.map za.pv)], .str R.2.1, .int .i64 R.2.2]) := by
  rw [ab3] at hh
  refine afk rfl ?_
  refine zb fun K kk hK => ?_
  simp only [go_sem]
  refine hK _ _ fun nx => ?_; clear hK K; try clear kk
  obtain ⟨⟨r_3, r_4⟩, h1, hh⟩ := ze hh
  dsimp only at hh
  refine zb fun K kk hK => ?_
  simp only [go_sem]
  refine zf (aeV _ _ _ h1) (by (try simp only [go_sem]) <;> exact wkl) (by rfl) (by rfl) ?_
  simp only [go_sem]
  refine hK _ _ fun nx => ?_; clear hK K; try clear kk
  refine zk ?_
  refine zb fun K kk hK => ?_
  simp only [go_sem]
  refine hK _ _ fun nx => ?_; clear hK K; try clear kk
  by_cases h2 : (!r_4) = true
  · rw [if_pos h2] at hh
    refine zm (by first | exact congrArg PV.bool h2 | rfl) ?_
    refine zb fun K kk hK => ?_
    simp only [go_sem]
    refine hK _ _ fun nx => ?_; clear hK K; try clear kk
    refine zi ?_; refine nmx ?_
    obtain hR := Option.some.inj hh
    subst hR
    exact zy
  · rw [if_neg h2] at hh
    replace h2 := Bool.eq_false_iff.mpr h2
    refine zh (by first | exact congrArg PV.bool h2 | rfl) ?_
    refine zx ?_; refine nmx ?_
    obtain ⟨⟨r_5, r_6⟩, h3, hh⟩ := ze hh
    dsimp only at hh
    refine zb fun K kk hK => ?_
    simp only [go_sem]
    refine zf (xO _ _ _ h3) (by (try simp only [go_sem]) <;> exact wkl) (by rfl) (by rfl) ?_
    simp only [go_sem]
    refine hK _ _ fun nx => ?_; clear hK K; try clear kk
    obtain ⟨⟨r_7, apq⟩, h4, hh⟩ := ze hh
    dsimp only at hh
    refine zb fun K kk hK => ?_
    simp only [go_sem]
    refine jb [3] (by decide) (QI _ _ _ h4) (by (try simp only [go_sem, h2]) <;> exact wkb) (by rfl) ?_
    simp only [go_sem]
    refine hK _ _ fun nx => ?_; clear hK K; try clear kk
    refine zk ?_
    refine zb fun K kk hK => ?_
    simp only [go_sem]
    refine hK _ _ fun nx => ?_; clear hK K; try clear kk
    by_cases h5 : (decide (r_7 < (0 : Int))) = true
    · rw [if_pos h5] at hh
      refine zm (by first | exact congrArg PV.bool h5 | rfl) ?_
      refine zb fun K kk hK => ?_
      simp only [go_sem]
      refine hK _ _ fun nx => ?_; clear hK K; try clear kk
      refine zi ?_; refine nmx ?_
      obtain hR := Option.some.inj hh
      subst hR
      exact zy
    · rw [if_neg h5] at hh
      replace h5 := Bool.eq_false_iff.mpr h5
      refine zh (by first | exact congrArg PV.bool h5 | rfl) ?_
      refine zx ?_; refine nmx ?_
      obtain ⟨x_9, h6, hh⟩ := ze hh
      obtain ⟨h6a, h6b, h6c⟩ := rd_some h6
      have h6d := vz (f := zg.pv) h6c
      have h6f := wY (f := zg.pv) h6c
      try simp only [Int.toNat_natCast, Int.reduceToNat] at h6d h6f
      refine zb fun K kk hK => ?_
      simp only [go_sem, h6a, h6b, h6d, h6f.1, h6f.2]
      (repeat refine sd ?_)
      refine hK _ _ fun nx => ?_; clear hK K; try clear kk
      obtain ⟨ah8, h7, hh⟩ := ze hh
      refine zb fun K kk hK => ?_
      simp only [go_sem]
      refine zf (Vx _ _ h7) (by (try simp only [go_sem]) <;> exact wkl) (by rfl) (by rfl) ?_
      simp only [go_sem]
      refine hK _ _ fun nx => ?_; clear hK K; try clear kk
      obtain ⟨agB, h8, hh⟩ := ze hh
      obtain ⟨h8a, h8b, h8c⟩ := rd_some h8
      have h8d := vz (f := zg.pv) h8c
      have h8f := wY (f := zg.pv) h8c
      try simp only [Int.toNat_natCast, Int.reduceToNat] at h8d h8f
      obtain ⟨aj9, h9, hh⟩ := ze hh
      obtain ⟨h9a, h9c⟩ := Yl h9
      have h9d := acT (f := zg.pv) h9c
      try simp only [Int.toNat_natCast, Int.reduceToNat, List.map_cons, List.map_nil, List.cons_append, List.nil_append, List.singleton_append, pvE] at h9d
      have h9e := adq h9c
      have h8b_h9 := h8b; rw [h9e] at h8b_h9
      have h8f1_h9 := h8f.1; rw [h9e] at h8f1_h9
      have h8a_h9 := h8a; try rw [h9e] at h8a_h9
      have h8d_h9 := h8d; try rw [h9e] at h8d_h9
      try rw [h9e] at h9d
      have h9bw := h9a.2; rw [h9e] at h9bw
      refine zb fun K kk hK => ?_
      simp only [go_sem, h8a, h8b, h8d, h8f.1, h8f.2, h9a.1, h9a.2, h9d, h9e, h8b_h9, h8f1_h9, h8a_h9, h8d_h9, h9bw]
      (repeat refine sd ?_)
      try simp only [go_sem, h8a, h8b, h8d, h8f.1, h8f.2, h9a.1, h9a.2, h9d, h9e, h8b_h9, h8f1_h9, h8a_h9, h8d_h9, h9bw]
      refine hK _ _ fun nx => ?_; clear hK K; try clear kk
      obtain ⟨⟨Xp, aei⟩, h10, hh⟩ := ze hh
      dsimp only at hh
      refine zb fun K kk hK => ?_
      simp only [go_sem]
      refine zf (YP _ _ _ _ h10) (by (try simp only [go_sem]) <;> exact wkl) (by rfl) (by rfl) ?_
      simp only [go_sem]
      refine hK _ _ fun nx => ?_; clear hK K; try clear kk
      refine zb fun K kk hK => ?_
      simp only [go_sem]
      refine hK _ _ fun nx => ?_; clear hK K; try clear kk
      refine zi ?_; refine nmx ?_
      obtain hR := Option.some.inj hh
      subst hR
      exact zy
theorem abS (s : zD) (marks : (List Str)) (R : ((List Str) × Bool)) (hh : Qd s marks = some R) : PC Tryd.prog 112 [.agg [.int .u8 s.Kind, .int .i64 s.From, .int .i64 s.To, .list 5 (s.wM.map za.pv), .str s.Name, .str s.Value], .list 1 (marks.map PV.str)] (.tup [.list 1 (R.1.map PV.str), .bool R.2]) := by
 rw [Qd] at hh
 exact apm s marks R hh
theorem Jl (Vz : Int) (aob : Int) (vv : Int) (zz : Int) (jg : Int) (wV : (List za)) (vw : Str) (wW : Str) (l_9 : (List zo)) (R : (Int × Int × Int × (List za) × Str × Str × (List zo))) (hh : vP Vz aob vv zz jg wV vw wW l_9 = some R) : BC Tryd.prog 113 [.box 1000 0 0, .int .i64 Vz, .int .i64 aob] [.var 136 [.int .u8 vv, .int .i64 zz, .int .i64 jg, .list 5 (wV.map za.pv), .str vw, .str wW, .row 1001 0 l_9.length], .row false 3 (l_9.map zo.pv)] (.tup []) [.var 136 [.int .u8 R.1, .int .i64 R.2.1, .int .i64 R.2.2.1, .list 5 (R.2.2.2.1.map za.pv), .str R.2.2.2.2.1, .str R.2.2.2.2.2.1, .row 1001 0 R.2.2.2.2.2.2.length], .moved 3 (R.2.2.2.2.2.2.map zo.pv)] := by
  rw [vP] at hh
  refine KR rfl rfl rfl ?_
  refine zb fun K kk hK => ?_
  simp only [go_sem]
  refine hK _ _ fun nx => ?_; clear hK K; try clear kk
  refine zk ?_
  by_cases h1 : (decide ((w64 ((l_9.length : Int) - (1 : Int))) ≥ (0 : Int))) = true
  · rw [if_pos h1] at hh
    obtain ⟨agC, h2, hh⟩ := ze hh
    obtain ⟨h2a, h2b, h2c⟩ := rd_some h2
    have h2d := vz (f := zo.pv) h2c
    have h2f := wY (f := zo.pv) h2c
    try simp only [Int.toNat_natCast, Int.reduceToNat] at h2d h2f
    refine zb fun K kk hK => ?_
    simp only [go_sem, h1, of_decide_eq_true h1, h2a, h2b, h2d, h2f.1, h2f.2]
    (repeat refine sd ?_)
    refine hK _ _ fun nx => ?_; clear hK K; try clear kk
    by_cases h3 : ((w64 (agC.Pos + agC.Old)) == Vz) = true
    · rw [if_pos h3] at hh
      refine zm (by first | exact congrArg PV.bool h3 | rfl) ?_
      obtain ⟨aoS, h4, hh⟩ := ze hh
      obtain ⟨h4a, h4c⟩ := Yl h4
      have h4d := acT (f := zo.pv) h4c
      try simp only [Int.toNat_natCast, Int.reduceToNat, List.map_cons, List.map_nil, List.cons_append, List.nil_append, List.singleton_append, pvE] at h4d
      have h4e := adq h4c
      have h2b_h4 := h2b; rw [h4e] at h2b_h4
      have h2f1_h4 := h2f.1; rw [h4e] at h2f1_h4
      have h2a_h4 := h2a; try rw [h4e] at h2a_h4
      have h2d_h4 := h2d; try rw [h4e] at h2d_h4
      try rw [h4e] at h4d
      have h4bw := h4a.2; rw [h4e] at h4bw
      refine zb fun K kk hK => ?_
      simp only [go_sem, h2a, h2b, h2d, h2f.1, h2f.2, h4a.1, h4a.2, h4d, h4e, h2b_h4, h2f1_h4, h2a_h4, h2d_h4, h4bw]
      (repeat refine sd ?_)
      try simp only [go_sem, h2a, h2b, h2d, h2f.1, h2f.2, h4a.1, h4a.2, h4d, h4e, h2b_h4, h2f1_h4, h2a_h4, h2d_h4, h4bw]
      refine hK _ _ fun nx => ?_; clear hK K; try clear kk
      refine zi ?_; refine nmx ?_
      obtain hR := Option.some.inj hh
      subst hR
      refine kH ?_ (by rfl) ?_
      · simp only [go_sem, wo, jo, wX, kS, yC, List.map_cons, List.map_append, List.head?_cons, h1, h3]
        all_goals exact wkw
      · (try simp only [go_sem, h1, h3]); (try simp only [List.length_append, List.map_append, h4e]); all_goals exact wkb
    · rw [if_neg h3] at hh
      replace h3 := Bool.eq_false_iff.mpr h3
      refine zh (by first | exact congrArg PV.bool h3 | rfl) ?_
      refine zx ?_; refine nmx ?_
      obtain ⟨aj9, h5, hh⟩ := ze hh
      obtain ⟨h5a, h5c⟩ := zV h5
      have h5d := qE (f := zo.pv) h5c
      have h5e := qH h5c
      try simp only [List.length_cons, List.length_nil, Nat.zero_add, Nat.reduceAdd] at h5a h5e
      try simp only [h5e] at h5a
      try simp only [List.map_cons, List.map_nil, List.nil_append, List.append_nil, List.cons_append, List.singleton_append, zn, pvE] at h5d
      refine zq fun K kk hK => ?_
      simp only [go_sem, h5a, h5d, h5e]
      (repeat refine sd ?_)
      refine hK _ _ fun nx => ?_; clear hK K; try clear kk
      refine nmx ?_
      obtain hR := Option.some.inj hh
      subst hR
      refine Xd ?_
      refine kH ?_ (by rfl) ?_
      · simp only [go_sem, wo, jo, wX, kS, yC, List.map_cons, List.map_append, List.head?_cons, h1, h3]
        all_goals exact wkw
      · (try simp only [go_sem, h1, h3]); (try simp only [List.length_append, List.map_append, h5e]); all_goals exact wkb
  · rw [if_neg h1] at hh
    replace h1 := Bool.eq_false_iff.mpr h1
    refine zb fun K kk hK => ?_
    simp only [go_sem, h1, of_decide_eq_false h1]
    (repeat refine sd ?_)
    refine hK _ _ fun nx => ?_; clear hK K; try clear kk
    refine zh rfl ?_
    refine zx ?_; refine nmx ?_
    obtain ⟨aoJ, h6, hh⟩ := ze hh
    obtain ⟨h6a, h6c⟩ := zV h6
    have h6d := qE (f := zo.pv) h6c
    have h6e := qH h6c
    try simp only [List.length_cons, List.length_nil, Nat.zero_add, Nat.reduceAdd] at h6a h6e
    try simp only [h6e] at h6a
    try simp only [List.map_cons, List.map_nil, List.nil_append, List.append_nil, List.cons_append, List.singleton_append, zn, pvE] at h6d
    refine zq fun K kk hK => ?_
    simp only [go_sem, h6a, h6d, h6e]
    (repeat refine sd ?_)
    refine hK _ _ fun nx => ?_; clear hK K; try clear kk
    refine nmx ?_
    obtain hR := Option.some.inj hh
    subst hR
    refine Xd ?_
    refine kH ?_ (by rfl) ?_
    · simp only [go_sem, wo, jo, wX, kS, yC, List.map_cons, List.map_append, List.head?_cons, h1]
      all_goals exact wkw
    · (try simp only [go_sem, h1]); (try simp only [List.length_append, List.map_append, h6e]); all_goals exact wkb
theorem jH (a_1 : Int) (b_2 : Int) (aeJ : (List Str)) (QP : za) (v_5 : (List Int)) (R : za) (hh : wC a_1 b_2 aeJ QP v_5 = some R) : BC Tryd.prog 114 [.int .i64 a_1, .int .i64 b_2, .list 1 (aeJ.map PV.str), .box 1000 0 0, .box 1001 0 0] [.var 28 [.str QP.Kind, .str QP.Text, .list 1 (QP.Marks.map PV.str), .list 2 (QP.zu.map zg.pv), .list 5 (QP.Kids.map za.pv)], .var 65 [.list 1 (v_5.map (PV.int .i32))]] (.agg [.str R.Kind, .str R.Text, .list 1 (R.Marks.map PV.str), .list 2 (R.zu.map zg.pv), .list 5 (R.Kids.map za.pv)]) [.var 28 [.str QP.Kind, .str QP.Text, .list 1 (QP.Marks.map PV.str), .list 2 (QP.zu.map zg.pv), .list 5 (QP.Kids.map za.pv)], .var 65 [.list 1 (v_5.map (PV.int .i32))]] := by
  rw [wC] at hh
  refine WU rfl rfl rfl ?_
  refine zb fun K kk hK => ?_
  simp only [go_sem]
  refine hK _ _ fun nx => ?_; clear hK K; try clear kk
  obtain ⟨s_6, h1, hh⟩ := ze hh
  obtain ⟨h1a, h1c⟩ := QS h1
  have h1g := YD h1a
  have h1d := ar4 (f := (PV.int .i32)) h1c
  try simp only [Int.toNat_natCast, Int.reduceToNat, List.map_cons, List.map_nil, pvE] at h1d
  refine zb fun K kk hK => ?_
  simp only [go_sem, h1a.1, h1a.2.1, h1a.2.2, h1d, h1g]
  (repeat refine sd ?_)
  refine hK _ _ fun nx => ?_; clear hK K; try clear kk
  refine zi ?_; refine nmx ?_
  obtain hR := Option.some.inj hh
  subst hR
  refine kH ?_ (by rfl) ?_
  · simp only [go_sem, wo, jo, wX, kS, yC, List.map_cons, List.map_append, List.head?_cons]
    all_goals exact wkw
  · (try simp only [go_sem]); (try simp only [List.length_append, List.map_append]); all_goals exact wkb
end Go.Proofs.YtclohbgnaopjfaaDoor
