/- Texts of the proof of stepMarksCard -/
import Derived.Test.YtclohbgnaopjfaaDoorAgC
import Derived.Test.YtclohbgnaopjfaaDoorAgF
import Derived.Test.YtclohbgnaopjfaaDoorAgK6
import Derived.Test.YtclohbgnaopjfaaDoorAgL
namespace Go.Proofs.YtclohbgnaopjfaaDoor
set_option linter.unusedSimpArgs false
set_option linter.unusedVariables false
open Go
set_option maxRecDepth 100000
theorem Yt (l_1 : (List zt)) (R : za) (hh : jT l_1 = some R) : PC Tryd.prog 25 [.list 4 (l_1.map zt.pv)] (.agg [.str R.Kind, .str R.Text, .list 1 (R.Marks.map PV.str), .list 2 (R.zu.map zg.pv), .list 5 (R.Kids.map za.pv)]) := by
  rw [jT] at hh
  refine Jw rfl ?_
  refine zb fun K kk hK => ?_
  simp only [go_sem]
  refine hK _ _ fun nx => ?_; clear hK K; try clear kk
  refine zb fun K kk hK => ?_
  simp only [go_sem]
  refine hK _ _ fun nx => ?_; clear hK K; try clear kk
  refine zb fun K kk hK => ?_
  simp only [go_sem]
  refine hK _ _ fun nx => ?_; clear hK K; try clear kk
  refine zb fun K kk hK => ?_
  simp only [go_sem]
  refine hK _ _ fun nx => ?_; clear hK K; try clear kk
  refine zk ?_
  refine zb fun K kk hK => ?_
  simp only [go_sem]
  refine hK _ _ fun nx => ?_; clear hK K; try clear kk
  obtain ⟨e0, f0, hh⟩ := ze hh
  obtain ⟨hlen0, f0⟩ := zY f0
  refine qz (wZ (fun s => ∃ an0, an0 = e0 ∧ ∃ (atp : Int) (atL : Bool) (agd : (List za)) (nx : Nat) (g2 : Nat) (g3 : Nat) (g4 : Nat) (g5 : Nat) (g332 : Nat), s = ⟨[(0, .list 4 (l_1.map zt.pv)), (2, .box 2 g2 0), (3, .row 3 g3 [([97] : Str), ([98, 99] : Str), ([195, 169] : Str), ([120, 32, 121] : Str), ([230, 151, 165, 230, 156, 172] : Str)].length), (4, .box 4 g4 0), (5, .row 5 g5 agd.length), (6, .int .i64 atp), (22, .bool atL)], [(2, g2, .var 28 [.str ([] : Str), .str ([] : Str), .list 1 ([].map PV.str), .list 2 ([].map zg.pv), .list 5 ([].map za.pv)]), (3, g3, .row false 1 ([([97] : Str), ([98, 99] : Str), ([195, 169] : Str), ([120, 32, 121] : Str), ([230, 151, 165, 230, 156, 172] : Str)].map PV.str)), (4, g4, .var 28 [.str ([100, 111, 99] : Str), .str ([] : Str), .list 1 ([].map PV.str), .list 2 ([].map zg.pv), .row 332 g332 an0.length]), (5, g5, .row false 5 (agd.map za.pv)), (332, g332, .row false 5 (an0.map za.pv))], nx⟩))
    (fun i s => False)
    (fun s => False) ?_ ?_ ?_ ?_
  · refine zC ?_
    refine qp fun I hI => ?_
    have key : ∀ (suf pre : List zt) (QK : Int) (xq : (List za)) (yD : (List za)), l_1 = pre ++ suf → QK = (pre.length : Int) → zA suf QK xq yD = some e0 → ∀ (nx : Nat) (g2 : Nat) (g3 : Nat) (g4 : Nat) (g5 : Nat) (g332 : Nat), I ⟨[(0, .list 4 (l_1.map zt.pv)), (2, .box 2 g2 0), (3, .row 3 g3 [([97] : Str), ([98, 99] : Str), ([195, 169] : Str), ([120, 32, 121] : Str), ([230, 151, 165, 230, 156, 172] : Str)].length), (4, .box 4 g4 0), (5, .row 5 g5 xq.length), (6, .int .i64 QK)], [(2, g2, .var 28 [.str ([] : Str), .str ([] : Str), .list 1 ([].map PV.str), .list 2 ([].map zg.pv), .list 5 ([].map za.pv)]), (3, g3, .row false 1 ([([97] : Str), ([98, 99] : Str), ([195, 169] : Str), ([120, 32, 121] : Str), ([230, 151, 165, 230, 156, 172] : Str)].map PV.str)), (4, g4, .var 28 [.str ([100, 111, 99] : Str), .str ([] : Str), .list 1 ([].map PV.str), .list 2 ([].map zg.pv), .row 332 g332 yD.length]), (5, g5, .row false 5 (xq.map za.pv)), (332, g332, .row false 5 (yD.map za.pv))], nx⟩ := by
      intro suf
      induction suf with
      | nil =>
        intro pre QK xq yD hsplit hidx hh nx g2 g3 g4 g5 g332
        rw [zA] at hh
        refine hI _ ?_
        have h77 := walk_nil hsplit hidx
        refine zk ?_
        refine zb fun K kk hK => ?_
        simp only [go_sem, h77, of_decide_eq_false h77]
        (repeat refine sd ?_)
        refine hK _ _ fun nx => ?_; clear hK K; try clear kk
        refine zh rfl ?_
        refine qa ?_; refine nmx ?_
        refine kF ?_
        refine zH ?_
        refine ⟨_, (Option.some.inj hh), ?_⟩
        first | exact ⟨_, _, _, _, _, _, _, _, _, rfl⟩ | (simp only [pvE, lsE, zn]; exact ⟨_, _, _, _, _, _, _, _, _, rfl⟩) | (simp only [pvE, lsE, zn, h77]; exact ⟨_, _, _, _, _, _, _, _, _, rfl⟩)
      | cons acL suf ih =>
        intro pre QK xq yD hsplit hidx hh nx g2 g3 g4 g5 g332
        rw [zA] at hh
        refine hI _ ?_
        obtain ⟨hl0a, hl0b, hl0d, hl0w, h77⟩ := qF (f := zt.pv) hsplit hidx hlen0
        refine zk ?_
        refine zb fun K kk hK => ?_
        simp only [go_sem, h77, of_decide_eq_true h77, hl0a, hl0b, hl0d, hl0w]
        (repeat refine sd ?_)
        refine hK _ _ fun nx => ?_; clear hK K; try clear kk
        by_cases h78 : (decide (QK < (40 : Int))) = true
        · rw [if_pos h78] at hh
          refine zm (by first | exact congrArg PV.bool h78 | rfl) ?_
          refine zx ?_; refine nmx ?_
          refine zk ?_
          refine zC ?_
          obtain ⟨amu, h79, hh⟩ := ze hh
          obtain ⟨arc, h80, hh⟩ := ze hh
          obtain ⟨h80a, h80b, h80c⟩ := rd_some h80
          have h80d := vz (f := PV.str) h80c
          have h80f := wY (f := PV.str) h80c
          try simp only [Int.toNat_natCast, Int.reduceToNat] at h80d h80f
          simp only [List.length_cons, List.length_nil, List.map_cons, List.map_nil, Nat.zero_add, Nat.reduceAdd, reduceCtorEq, not_false_eq_true, and_true, pvE] at h80b h80d h80f
          refine zb fun K kk hK => ?_
          simp only [go_sem, h80a, h80b, h80d, h80f, hl0a, hl0b, hl0d, hl0w]
          (repeat refine sd ?_)
          refine zf (qZ _ _ _ h79) (by (try simp only [go_sem, h80a, h80b, h80d, h80f, hl0a, hl0b, hl0d, hl0w]) <;> exact wkl) (by rfl) (by rfl) ?_
          simp only [go_sem, h80a, h80b, h80d, h80f, hl0a, hl0b, hl0d, hl0w]
          (repeat refine sd ?_)
          refine hK _ _ fun nx => ?_; clear hK K; try clear kk
          refine zk ?_
          obtain ⟨e7, f7, hh⟩ := ze hh
          refine VW (fun s => ∃ alQ, alQ = e7 ∧ ∃ (nx : Nat) (g2 : Nat) (g3 : Nat) (g4 : Nat) (g5 : Nat) (g7 : Nat) (g332 : Nat) (g351 : Nat), s = ⟨[(0, .list 4 (l_1.map zt.pv)), (2, .box 2 g2 0), (3, .row 3 g3 [([97] : Str), ([98, 99] : Str), ([195, 169] : Str), ([120, 32, 121] : Str), ([230, 151, 165, 230, 156, 172] : Str)].length), (4, .box 4 g4 0), (5, .row 5 g5 xq.length), (6, .int .i64 QK), (7, .box 7 g7 0)], [(2, g2, .var 28 [.str ([] : Str), .str ([] : Str), .list 1 ([].map PV.str), .list 2 ([].map zg.pv), .list 5 ([].map za.pv)]), (3, g3, .row false 1 ([([97] : Str), ([98, 99] : Str), ([195, 169] : Str), ([120, 32, 121] : Str), ([230, 151, 165, 230, 156, 172] : Str)].map PV.str)), (4, g4, .var 28 [.str ([100, 111, 99] : Str), .str ([] : Str), .list 1 ([].map PV.str), .list 2 ([].map zg.pv), .row 332 g332 yD.length]), (5, g5, .row false 5 (xq.map za.pv)), (7, g7, .var 28 [.str ([116, 101, 120, 116] : Str), .str arc, .row 351 g351 alQ.length, .list 2 ([].map zg.pv), .list 5 ([].map za.pv)]), (332, g332, .row false 5 (yD.map za.pv)), (351, g351, .row false 1 (alQ.map PV.str))], nx⟩)
            (fun i s => False)
            (fun s => False) ?_ ?_ ?_ ?_
          · have hh := f7
            obtain ⟨abX, h81, hh⟩ := ze hh
            refine zb fun K kk hK => ?_
            simp only [go_sem, hl0a, hl0b, hl0d, hl0w]
            refine zf (qZ _ _ _ h81) (by (try simp only [go_sem, hl0a, hl0b, hl0d, hl0w]) <;> exact wkl) (by rfl) (by rfl) ?_
            simp only [go_sem, hl0a, hl0b, hl0d, hl0w]
            refine hK _ _ fun nx => ?_; clear hK K; try clear kk
            by_cases h82 : ((ahA abX (1 : Int)) == (1 : Int)) = true
            · rw [if_pos h82] at hh
              refine zm (by first | exact congrArg PV.bool h82 | rfl) ?_
              obtain ⟨alo, h83, hh⟩ := ze hh
              obtain ⟨h83a, h83c⟩ := zV h83
              have h83d := qE (f := PV.str) h83c
              have h83e := (qH h83c).symm
              try simp only [List.length_cons, List.length_nil, Nat.zero_add, Nat.reduceAdd] at h83a h83e
              try simp only [List.map_cons, List.map_nil, List.nil_append, List.append_nil, List.cons_append, List.singleton_append, zn, pvE] at h83d
              have h83g := ajY (f := PV.str) h83e
              have h83h := apv h83e h83a
              refine zq fun K kk hK => ?_
              simp only [go_sem, h83a, h83d, eq_true h83e, eq_true (Nat.le_of_eq h83e.symm), h83g, hl0a, hl0b, hl0d, hl0w]
              (repeat refine sd ?_)
              refine hK _ _ fun nx => ?_; clear hK K; try clear kk
              refine nmx ?_
              refine kF ?_
              refine zH ?_
              refine ⟨_, (Option.some.inj hh), ?_⟩
              first | exact ⟨_, _, _, _, _, _, _, _, rfl⟩ | (simp only [pvE, lsE, zn, h83e]; exact ⟨_, _, _, _, _, _, _, _, rfl⟩) | (simp only [pvE, lsE, zn, h83e, h77, h78, h82]; exact ⟨_, _, _, _, _, _, _, _, rfl⟩)
            · rw [if_neg h82] at hh
              replace h82 := Bool.eq_false_iff.mpr h82
              refine zh (by first | exact congrArg PV.bool h82 | rfl) ?_
              refine zx ?_; refine nmx ?_
              refine kF ?_
              refine apw (ak1 _ [0, 2, 3, 4, 5, 6, 7] [2, 3, 4, 5, 7, 332, 351]) ?_
              refine ⟨_, (Option.some.inj hh), ?_⟩
              first | exact ⟨_, _, _, _, _, _, _, _, rfl⟩ | (simp only [pvE, lsE, zn]; exact ⟨_, _, _, _, _, _, _, _, rfl⟩) | (simp only [pvE, lsE, zn, h77, h78, h82]; exact ⟨_, _, _, _, _, _, _, _, rfl⟩)
          · rintro s ⟨alQ, rfl, nx, g2, g3, g4, g5, g7, g332, g351, rfl⟩
            try dsimp only at hh
            refine zk ?_
            obtain ⟨e8, f8, hh⟩ := ze hh
            refine VW (fun s => ∃ ano, ano = e8 ∧ ∃ (nx : Nat) (g2 : Nat) (g3 : Nat) (g4 : Nat) (g5 : Nat) (g7 : Nat) (g332 : Nat) (g351 : Nat), s = ⟨[(0, .list 4 (l_1.map zt.pv)), (2, .box 2 g2 0), (3, .row 3 g3 [([97] : Str), ([98, 99] : Str), ([195, 169] : Str), ([120, 32, 121] : Str), ([230, 151, 165, 230, 156, 172] : Str)].length), (4, .box 4 g4 0), (5, .row 5 g5 xq.length), (6, .int .i64 QK), (7, .box 7 g7 0)], [(2, g2, .var 28 [.str ([] : Str), .str ([] : Str), .list 1 ([].map PV.str), .list 2 ([].map zg.pv), .list 5 ([].map za.pv)]), (3, g3, .row false 1 ([([97] : Str), ([98, 99] : Str), ([195, 169] : Str), ([120, 32, 121] : Str), ([230, 151, 165, 230, 156, 172] : Str)].map PV.str)), (4, g4, .var 28 [.str ([100, 111, 99] : Str), .str ([] : Str), .list 1 ([].map PV.str), .list 2 ([].map zg.pv), .row 332 g332 yD.length]), (5, g5, .row false 5 (xq.map za.pv)), (7, g7, .var 28 [.str ([116, 101, 120, 116] : Str), .str arc, .row 351 g351 ano.length, .list 2 ([].map zg.pv), .list 5 ([].map za.pv)]), (332, g332, .row false 5 (yD.map za.pv)), (351, g351, .row false 1 (ano.map PV.str))], nx⟩)
              (fun i s => False)
              (fun s => False) ?_ ?_ ?_ ?_
            · have hh := f8
              obtain ⟨aaU, h84, hh⟩ := ze hh
              refine zb fun K kk hK => ?_
              simp only [go_sem, hl0a, hl0b, hl0d, hl0w]
              refine zf (qZ _ _ _ h84) (by (try simp only [go_sem, hl0a, hl0b, hl0d, hl0w]) <;> exact wkl) (by rfl) (by rfl) ?_
              simp only [go_sem, hl0a, hl0b, hl0d, hl0w]
              refine hK _ _ fun nx => ?_; clear hK K; try clear kk
              by_cases h85 : ((ahA aaU (2 : Int)) == (2 : Int)) = true
              · rw [if_pos h85] at hh
                refine zm (by first | exact congrArg PV.bool h85 | rfl) ?_
                obtain ⟨aqC, h86, hh⟩ := ze hh
                obtain ⟨h86a, h86c⟩ := zV h86
                have h86d := qE (f := PV.str) h86c
                have h86e := qH h86c
                try simp only [List.length_cons, List.length_nil, Nat.zero_add, Nat.reduceAdd] at h86a h86e
                try simp only [h86e] at h86a
                try simp only [List.map_cons, List.map_nil, List.nil_append, List.append_nil, List.cons_append, List.singleton_append, zn, pvE] at h86d
                refine zq fun K kk hK => ?_
                simp only [go_sem, h86a, h86d, h86e, hl0a, hl0b, hl0d, hl0w]
                (repeat refine sd ?_)
                refine hK _ _ fun nx => ?_; clear hK K; try clear kk
                refine nmx ?_
                refine kF ?_
                refine zH ?_
                refine ⟨_, (Option.some.inj hh), ?_⟩
                first | exact ⟨_, _, _, _, _, _, _, _, rfl⟩ | (simp only [pvE, lsE, zn, h86e]; exact ⟨_, _, _, _, _, _, _, _, rfl⟩) | (simp only [pvE, lsE, zn, h86e, h77, h78, h85]; exact ⟨_, _, _, _, _, _, _, _, rfl⟩)
              · rw [if_neg h85] at hh
                replace h85 := Bool.eq_false_iff.mpr h85
                refine zh (by first | exact congrArg PV.bool h85 | rfl) ?_
                refine zx ?_; refine nmx ?_
                refine kF ?_
                refine apw (ak1 _ [0, 2, 3, 4, 5, 6, 7] [2, 3, 4, 5, 7, 332, 351]) ?_
                refine ⟨_, (Option.some.inj hh), ?_⟩
                first | exact ⟨_, _, _, _, _, _, _, _, rfl⟩ | (simp only [pvE, lsE, zn]; exact ⟨_, _, _, _, _, _, _, _, rfl⟩) | (simp only [pvE, lsE, zn, h77, h78, h85]; exact ⟨_, _, _, _, _, _, _, _, rfl⟩)
            · rintro s ⟨ano, rfl, nx, g2, g3, g4, g5, g7, g332, g351, rfl⟩
              try dsimp only at hh
              obtain ⟨asz, h87, hh⟩ := ze hh
              obtain ⟨h87a, h87c⟩ := zV h87
              have h87d := qE (f := za.pv) h87c
              have h87e := qH h87c
              try simp only [List.length_cons, List.length_nil, Nat.zero_add, Nat.reduceAdd] at h87a h87e
              try simp only [h87e] at h87a
              try simp only [List.map_cons, List.map_nil, List.nil_append, List.append_nil, List.cons_append, List.singleton_append, zn, pvE] at h87d
              refine zb fun K kk hK => ?_
              simp only [go_sem, h87a, h87d, h87e, hl0a, hl0b, hl0d, hl0w]
              (repeat refine sd ?_)
              refine hK _ _ fun nx => ?_; clear hK K; try clear kk
              obtain ⟨Jv, h88, hh⟩ := ze hh
              refine zb fun K kk hK => ?_
              simp only [go_sem, hl0a, hl0b, hl0d, hl0w]
              refine zf (qZ _ _ _ h88) (by (try simp only [go_sem, hl0a, hl0b, hl0d, hl0w]) <;> exact wkl) (by rfl) (by rfl) ?_
              simp only [go_sem, hl0a, hl0b, hl0d, hl0w]
              refine hK _ _ fun nx => ?_; clear hK K; try clear kk
              refine zk ?_
              refine zb fun K kk hK => ?_
              simp only [go_sem, hl0a, hl0b, hl0d, hl0w]
              refine hK _ _ fun nx => ?_; clear hK K; try clear kk
              by_cases h89 : (Jv == (0 : Int)) = true
              · rw [if_pos h89] at hh
                refine zm (by first | exact congrArg PV.bool h89 | rfl) ?_
                refine qa ?_; refine nmx ?_
                refine zq fun K kk hK => ?_
                simp only [go_sem, hl0a, hl0b, hl0d, hl0w]
                refine hK _ _ fun nx => ?_; clear hK K; try clear kk
                refine nmx ?_
                have ih' := ih (pre ++ [acL]) (QK + 1) _ _ (by rw [hsplit]; simp) (by simp [hidx]) hh nx
                refine zH ?_
                first | exact ih' _ _ _ _ _ | (simp only [pvE, lsE, zn, h87e] at ih' ⊢; exact ih' _ _ _ _ _) | (simp only [pvE, lsE, zn, h87e, h77, h78, h89] at ih' ⊢; exact ih' _ _ _ _ _)
              · rw [if_neg h89] at hh
                replace h89 := Bool.eq_false_iff.mpr h89
                refine zh (by first | exact congrArg PV.bool h89 | rfl) ?_
                refine zx ?_; refine nmx ?_
                obtain ⟨jN, h90, hh⟩ := ze hh
                refine zb fun K kk hK => ?_
                simp only [go_sem, hl0a, hl0b, hl0d, hl0w]
                refine zf (X4 _ _ _ h90) (by (try simp only [go_sem, hl0a, hl0b, hl0d, hl0w]) <;> exact wkl) (by rfl) (by rfl) ?_
                simp only [go_sem, hl0a, hl0b, hl0d, hl0w]
                refine hK _ _ fun nx => ?_; clear hK K; try clear kk
                refine zb fun K kk hK => ?_
                simp only [go_sem, hl0a, hl0b, hl0d, hl0w]
                refine hK _ _ fun nx => ?_; clear hK K; try clear kk
                refine zb fun K kk hK => ?_
                simp only [go_sem, hl0a, hl0b, hl0d, hl0w]
                refine hK _ _ fun nx => ?_; clear hK K; try clear kk
                refine zk ?_
                refine zb fun K kk hK => ?_
                simp only [go_sem, hl0a, hl0b, hl0d, hl0w]
                refine hK _ _ fun nx => ?_; clear hK K; try clear kk
                by_cases h91 : (decide (Jv < (3 : Int))) = true
                · rw [if_pos h91] at hh
                  refine zm (by first | exact congrArg PV.bool h91 | rfl) ?_
                  obtain ⟨aq7, h92, hh⟩ := ze hh
                  obtain ⟨h92a, h92c⟩ := zV h92
                  have h92d := qE (f := za.pv) h92c
                  have h92e := qH h92c
                  try simp only [List.length_cons, List.length_nil, Nat.zero_add, Nat.reduceAdd] at h92a h92e
                  try simp only [h92e] at h92a
                  try simp only [List.map_cons, List.map_nil, List.nil_append, List.append_nil, List.cons_append, List.singleton_append, zn, pvE] at h92d
                  refine zb fun K kk hK => ?_
                  simp only [go_sem, h92a, h92d, h92e, hl0a, hl0b, hl0d, hl0w]
                  (repeat refine sd ?_)
                  refine hK _ _ fun nx => ?_; clear hK K; try clear kk
                  refine qa ?_; refine nmx ?_
                  refine zq fun K kk hK => ?_
                  simp only [go_sem, hl0a, hl0b, hl0d, hl0w]
                  refine hK _ _ fun nx => ?_; clear hK K; try clear kk
                  refine nmx ?_
                  have ih' := ih (pre ++ [acL]) (QK + 1) _ _ (by rw [hsplit]; simp) (by simp [hidx]) hh nx
                  refine zH ?_
                  first | exact ih' _ _ _ _ _ | (simp only [pvE, lsE, zn, h87e, h92e] at ih' ⊢; exact ih' _ _ _ _ _) | (simp only [pvE, lsE, zn, h87e, h92e, h77, h78, h89, h91] at ih' ⊢; exact ih' _ _ _ _ _)
                · rw [if_neg h91] at hh
                  replace h91 := Bool.eq_false_iff.mpr h91
                  refine zh (by first | exact congrArg PV.bool h91 | rfl) ?_
                  refine zx ?_; refine nmx ?_
                  refine zb fun K kk hK => ?_
                  simp only [go_sem, hl0a, hl0b, hl0d, hl0w]
                  refine hK _ _ fun nx => ?_; clear hK K; try clear kk
                  refine zk ?_
                  obtain ⟨e9, f9, hh⟩ := ze hh
                  refine VW (fun s => .inr () = e9 ∧ ∃ (as9 : Bool) (nx : Nat) (g2 : Nat) (g3 : Nat) (g4 : Nat) (g5 : Nat) (g11 : Nat) (g332 : Nat) (g381 : Nat), s = ⟨[(0, .list 4 (l_1.map zt.pv)), (2, .box 2 g2 0), (3, .row 3 g3 [([97] : Str), ([98, 99] : Str), ([195, 169] : Str), ([120, 32, 121] : Str), ([230, 151, 165, 230, 156, 172] : Str)].length), (4, .box 4 g4 0), (5, .row 5 g5 ([] : List za).length), (6, .int .i64 QK), (10, .int .i64 (w64 ((yD.length : Int) - (1 : Int)))), (11, .box 11 g11 0), (108, .bool as9)], [(2, g2, .var 28 [.str ([] : Str), .str ([] : Str), .list 1 ([].map PV.str), .list 2 ([].map zg.pv), .list 5 ([].map za.pv)]), (3, g3, .row false 1 ([([97] : Str), ([98, 99] : Str), ([195, 169] : Str), ([120, 32, 121] : Str), ([230, 151, 165, 230, 156, 172] : Str)].map PV.str)), (4, g4, .var 28 [.str ([100, 111, 99] : Str), .str ([] : Str), .list 1 ([].map PV.str), .list 2 ([].map zg.pv), .row 332 g332 yD.length]), (5, g5, .row false 5 (([] : List za).map za.pv)), (11, g11, .var 28 [.str ([105, 116, 101, 109] : Str), .str ([] : Str), .list 1 ([].map PV.str), .list 2 ([].map zg.pv), .row 381 g381 [jN].length]), (332, g332, .row false 5 (yD.map za.pv)), (381, g381, .row false 5 ([jN].map za.pv))], nx⟩)
                    (fun i s => (i = 1 ∧ ∃ akk, .inl akk = e9 ∧ ∃ (nx : Nat) (g2 : Nat) (g3 : Nat) (g4 : Nat) (g5 : Nat) (g332 : Nat), s = ⟨[(0, .list 4 (l_1.map zt.pv)), (2, .box 2 g2 0), (3, .row 3 g3 [([97] : Str), ([98, 99] : Str), ([195, 169] : Str), ([120, 32, 121] : Str), ([230, 151, 165, 230, 156, 172] : Str)].length), (4, .box 4 g4 0), (5, .row 5 g5 ([] : List za).length), (6, .int .i64 QK)], [(2, g2, .var 28 [.str ([] : Str), .str ([] : Str), .list 1 ([].map PV.str), .list 2 ([].map zg.pv), .list 5 ([].map za.pv)]), (3, g3, .row false 1 ([([97] : Str), ([98, 99] : Str), ([195, 169] : Str), ([120, 32, 121] : Str), ([230, 151, 165, 230, 156, 172] : Str)].map PV.str)), (4, g4, .var 28 [.str ([100, 111, 99] : Str), .str ([] : Str), .list 1 ([].map PV.str), .list 2 ([].map zg.pv), .row 332 g332 akk.length]), (5, g5, .row false 5 (([] : List za).map za.pv)), (332, g332, .row false 5 (akk.map za.pv))], nx⟩))
                    (fun s => False) ?_ ?_ ?_ ?_
                  · have hh := f9
                    by_cases h93 : (decide ((w64 ((yD.length : Int) - (1 : Int))) ≥ (0 : Int))) = true
                    · rw [if_pos h93] at hh
                      obtain ⟨aiD, h94, hh⟩ := ze hh
                      obtain ⟨h94a, h94b, h94c⟩ := rd_some h94
                      have h94d := vz (f := za.pv) h94c
                      have h94f := wY (f := za.pv) h94c
                      try simp only [Int.toNat_natCast, Int.reduceToNat] at h94d h94f
                      by_cases h95 : (aiD.Kind == ([108, 105, 115, 116] : Str)) = true
                      · rw [if_pos h95] at hh
                        refine zb fun K kk hK => ?_
                        simp only [go_sem, h93, of_decide_eq_true h93, h94a, h94b, h94d, h94f.1, h94f.2, h95, hl0a, hl0b, hl0d, hl0w]
                        (repeat refine sd ?_)
                        refine hK _ _ fun nx => ?_; clear hK K; try clear kk
                        by_cases h96 : (Jv == (3 : Int)) = true
                        · rw [if_pos h96] at hh
                          refine zm (by first | exact congrArg PV.bool h96 | rfl) ?_
                          refine zb fun K kk hK => ?_
                          simp only [go_sem, h94a, h94b, h94d, h94f.1, h94f.2, hl0a, hl0b, hl0d, hl0w]
                          (repeat refine sd ?_)
                          refine hK _ _ fun nx => ?_; clear hK K; try clear kk
                          obtain ⟨alV, h97, hh⟩ := ze hh
                          obtain ⟨h97a, h97c⟩ := zV h97
                          have h97d := qE (f := za.pv) h97c
                          have h97e := qH h97c
                          try simp only [List.length_cons, List.length_nil, Nat.zero_add, Nat.reduceAdd] at h97a h97e
                          try simp only [h97e] at h97a
                          try simp only [List.map_cons, List.map_nil, List.nil_append, List.append_nil, List.cons_append, List.singleton_append, zn, pvE] at h97d
                          obtain ⟨arn, h98, hh⟩ := ze hh
                          obtain ⟨h98a, h98c⟩ := zV h98
                          have h98d := qE (f := za.pv) h98c
                          have h98e := qH h98c
                          try simp only [List.length_cons, List.length_nil, Nat.zero_add, Nat.reduceAdd] at h98a h98e
                          try simp only [h98e] at h98a
                          try simp only [List.map_cons, List.map_nil, List.nil_append, List.append_nil, List.cons_append, List.singleton_append, zn, pvE] at h98d
                          refine alO (.nrm 11 [none, none, none, none, some 5]) ?_
                          refine zb fun K kk hK => ?_
                          simp only [go_sem, h97a, h97d, h97e, h98a, h98d, h98e, hl0a, hl0b, hl0d, hl0w]
                          (repeat refine sd ?_)
                          refine hK _ _ fun nx => ?_; clear hK K; try clear kk
                          obtain ⟨aru, h99, hh⟩ := ze hh
                          obtain ⟨h99a, h99c⟩ := QS h99
                          have h99g := YD h99a
                          have h99d := Yd (f := za.pv) h99c
                          try simp only [Int.toNat_natCast, Int.reduceToNat, List.map_cons, List.map_nil, pvE] at h99d
                          obtain ⟨aqB, h100, hh⟩ := ze hh
                          obtain ⟨h100a, h100c⟩ := zV h100
                          have h100d := qE (f := za.pv) h100c
                          have h100e := qH h100c
                          try simp only [List.length_cons, List.length_nil, Nat.zero_add, Nat.reduceAdd] at h100a h100e
                          try simp only [h100e] at h100a
                          try simp only [List.map_cons, List.map_nil, List.nil_append, List.append_nil, List.cons_append, List.singleton_append, zn, pvE] at h100d
                          obtain ⟨aq9, h101, hh⟩ := ze hh
                          obtain ⟨h101a, h101c⟩ := zV h101
                          have h101d := qE (f := za.pv) h101c
                          have h101e := qH h101c
                          try simp only [List.length_cons, List.length_nil, Nat.zero_add, Nat.reduceAdd] at h101a h101e
                          try simp only [h101e] at h101a
                          try simp only [List.map_cons, List.map_nil, List.nil_append, List.append_nil, List.cons_append, List.singleton_append, zn, pvE] at h101d
                          refine zb fun K kk hK => ?_
                          simp only [go_sem, h99a.1, h99a.2.1, h99a.2.2, h99d, h99g, h100a, h100d, h100e, h101a, h101d, h101e, hl0a, hl0b, hl0d, hl0w]
                          (repeat refine sd ?_)
                          refine hK _ _ fun nx => ?_; clear hK K; try clear kk
                          refine qa ?_; refine nmx ?_
                          refine aoD ⟨rfl, _, (Option.some.inj hh), ?_⟩
                          first | exact ⟨_, _, _, _, _, _, rfl⟩ | (simp only [pvE, lsE, zn, h87e, h97e, h97d, h98e, h100e, h100d, h101e]; exact ⟨_, _, _, _, _, _, rfl⟩) | (simp only [pvE, lsE, zn, h87e, h97e, h97d, h98e, h100e, h100d, h101e, h77, h78, h89, h91, h93, h95, h96]; exact ⟨_, _, _, _, _, _, rfl⟩)
                        · rw [if_neg h96] at hh
                          replace h96 := Bool.eq_false_iff.mpr h96
                          refine zh (by first | exact congrArg PV.bool h96 | rfl) ?_
                          refine zx ?_; refine nmx ?_
                          refine kF ?_
                          refine zH ?_
                          refine ⟨(Option.some.inj hh), ?_⟩
                          first | exact ⟨_, _, _, _, _, _, _, _, _, rfl⟩ | (simp only [pvE, lsE, zn, h87e]; exact ⟨_, _, _, _, _, _, _, _, _, rfl⟩) | (simp only [pvE, lsE, zn, h87e, h77, h78, h89, h91, h93, h95, h96]; exact ⟨_, _, _, _, _, _, _, _, _, rfl⟩)
                      · rw [if_neg h95] at hh
                        replace h95 := Bool.eq_false_iff.mpr h95
                        refine zb fun K kk hK => ?_
                        simp only [go_sem, h93, of_decide_eq_true h93, h94a, h94b, h94d, h94f.1, h94f.2, h95, hl0a, hl0b, hl0d, hl0w]
                        (repeat refine sd ?_)
                        refine hK _ _ fun nx => ?_; clear hK K; try clear kk
                        refine zh rfl ?_
                        refine zx ?_; refine nmx ?_
                        refine kF ?_
                        refine zH ?_
                        refine ⟨(Option.some.inj hh), ?_⟩
                        first | exact ⟨_, _, _, _, _, _, _, _, _, rfl⟩ | (simp only [pvE, lsE, zn, h87e]; exact ⟨_, _, _, _, _, _, _, _, _, rfl⟩) | (simp only [pvE, lsE, zn, h87e, h77, h78, h89, h91, h93, h95]; exact ⟨_, _, _, _, _, _, _, _, _, rfl⟩)
                    · rw [if_neg h93] at hh
                      replace h93 := Bool.eq_false_iff.mpr h93
                      refine zb fun K kk hK => ?_
                      simp only [go_sem, h93, of_decide_eq_false h93, hl0a, hl0b, hl0d, hl0w]
                      (repeat refine sd ?_)
                      refine hK _ _ fun nx => ?_; clear hK K; try clear kk
                      refine zh rfl ?_
                      refine zx ?_; refine nmx ?_
                      refine kF ?_
                      refine zH ?_
                      refine ⟨(Option.some.inj hh), ?_⟩
                      first | exact ⟨_, _, _, _, _, _, _, _, _, rfl⟩ | (simp only [pvE, lsE, zn, h87e]; exact ⟨_, _, _, _, _, _, _, _, _, rfl⟩) | (simp only [pvE, lsE, zn, h87e, h77, h78, h89, h91, h93]; exact ⟨_, _, _, _, _, _, _, _, _, rfl⟩)
                  · rintro s ⟨rfl, as9, nx, g2, g3, g4, g5, g11, g332, g381, rfl⟩
                    try dsimp only at hh
                    refine zk ?_
                    by_cases h102 : (decide ((w64 ((yD.length : Int) - (1 : Int))) ≥ (0 : Int))) = true
                    · rw [if_pos h102] at hh
                      obtain ⟨aic, h103, hh⟩ := ze hh
                      obtain ⟨h103a, h103b, h103c⟩ := rd_some h103
                      have h103d := vz (f := za.pv) h103c
                      have h103f := wY (f := za.pv) h103c
                      try simp only [Int.toNat_natCast, Int.reduceToNat] at h103d h103f
                      by_cases h104 : (aic.Kind == ([108, 105, 115, 116] : Str)) = true
                      · rw [if_pos h104] at hh
                        obtain ⟨XA, h105, hh⟩ := ze hh
                        refine zb fun K kk hK => ?_
                        simp only [go_sem, h102, of_decide_eq_true h102, h103a, h103b, h103d, h103f.1, h103f.2, h104, hl0a, hl0b, hl0d, hl0w]
                        (repeat refine sd ?_)
                        refine zf (Xj _ _ h105) (by (try simp only [go_sem, h102, of_decide_eq_true h102, h103a, h103b, h103d, h103f.1, h103f.2, h104, hl0a, hl0b, hl0d, hl0w]) <;> exact wkl) (by rfl) (by rfl) ?_
                        simp only [go_sem, h102, of_decide_eq_true h102, h103a, h103b, h103d, h103f.1, h103f.2, h104, hl0a, hl0b, hl0d, hl0w]
                        (repeat refine sd ?_)
                        refine hK _ _ fun nx => ?_; clear hK K; try clear kk
                        by_cases h106 : (decide (XA < (30 : Int))) = true
                        · rw [if_pos h106] at hh
                          refine zm (by first | exact congrArg PV.bool h106 | rfl) ?_
                          obtain ⟨arx, h107, hh⟩ := ze hh
                          obtain ⟨h107a, h107c⟩ := zV h107
                          have h107d := qE (f := za.pv) h107c
                          have h107e := (qH h107c).symm
                          try simp only [List.length_cons, List.length_nil, Nat.zero_add, Nat.reduceAdd] at h107a h107e
                          try simp only [List.map_cons, List.map_nil, List.nil_append, List.append_nil, List.cons_append, List.singleton_append, zn, pvE] at h107d
                          have h107g := ajY (f := za.pv) h107e
                          have h107h := apv h107e h107a
                          refine zb fun K kk hK => ?_
                          simp only [go_sem, h103a, h103b, h103d, h103f.1, h103f.2, h107a, h107d, eq_true h107e, eq_true (Nat.le_of_eq h107e.symm), h107g, hl0a, hl0b, hl0d, hl0w]
                          (repeat refine sd ?_)
                          refine hK _ _ fun nx => ?_; clear hK K; try clear kk
                          obtain ⟨aqA, h108, hh⟩ := ze hh
                          obtain ⟨h108a, h108c⟩ := QS h108
                          have h108g := YD h108a
                          have h108d := Yd (f := za.pv) h108c
                          try simp only [Int.toNat_natCast, Int.reduceToNat, List.map_cons, List.map_nil, pvE] at h108d
                          obtain ⟨arf, h109, hh⟩ := ze hh
                          obtain ⟨h109a, h109c⟩ := zV h109
                          have h109d := qE (f := za.pv) h109c
                          have h109e := qH h109c
                          try simp only [List.length_cons, List.length_nil, Nat.zero_add, Nat.reduceAdd] at h109a h109e
                          try simp only [h109e] at h109a
                          try simp only [List.map_cons, List.map_nil, List.nil_append, List.append_nil, List.cons_append, List.singleton_append, zn, pvE] at h109d
                          refine zq fun K kk hK => ?_
                          simp only [go_sem, h108a.1, h108a.2.1, h108a.2.2, h108d, h108g, h109a, h109d, h109e, eq_true h107e, eq_true (Nat.le_of_eq h107e.symm), h107g, hl0a, hl0b, hl0d, hl0w]
                          (repeat refine sd ?_)
                          refine hK _ _ fun nx => ?_; clear hK K; try clear kk
                          refine nmx ?_
                          obtain ⟨ark, h110, hh⟩ := ze hh
                          obtain ⟨h110a, h110c⟩ := zV h110
                          have h110d := qE (f := za.pv) h110c
                          have h110e := qH h110c
                          try simp only [List.length_cons, List.length_nil, Nat.zero_add, Nat.reduceAdd] at h110a h110e
                          try simp only [h110e] at h110a
                          try simp only [List.map_cons, List.map_nil, List.nil_append, List.append_nil, List.cons_append, List.singleton_append, zn, pvE] at h110d
                          refine zq fun K kk hK => ?_
                          simp only [go_sem, h110a, h110d, h110e, eq_true h107e, eq_true (Nat.le_of_eq h107e.symm), h107g, hl0a, hl0b, hl0d, hl0w]
                          (repeat refine sd ?_)
                          refine hK _ _ fun nx => ?_; clear hK K; try clear kk
                          refine nmx ?_
                          refine zq fun K kk hK => ?_
                          simp only [go_sem, eq_true h107e, eq_true (Nat.le_of_eq h107e.symm), h107g, hl0a, hl0b, hl0d, hl0w]
                          refine hK _ _ fun nx => ?_; clear hK K; try clear kk
                          refine nmx ?_
                          have ih' := ih (pre ++ [acL]) (QK + 1) _ _ (by rw [hsplit]; simp) (by simp [hidx]) hh nx
                          refine zH ?_
                          first | exact ih' _ _ _ _ _ | (simp only [pvE, lsE, zn, h87e, h107e, h109e, h109d, h110e] at ih' ⊢; exact ih' _ _ _ _ _) | (simp only [pvE, lsE, zn, h87e, h107e, h109e, h109d, h110e, h102, h104, h106, h77, h78, h89, h91] at ih' ⊢; exact ih' _ _ _ _ _)
                        · rw [if_neg h106] at hh
                          replace h106 := Bool.eq_false_iff.mpr h106
                          refine zh (by first | exact congrArg PV.bool h106 | rfl) ?_
                          refine zx ?_; refine nmx ?_
                          obtain ⟨ard, h111, hh⟩ := ze hh
                          obtain ⟨h111a, h111c⟩ := zV h111
                          have h111d := qE (f := za.pv) h111c
                          have h111e := qH h111c
                          try simp only [List.length_cons, List.length_nil, Nat.zero_add, Nat.reduceAdd] at h111a h111e
                          try simp only [h111e] at h111a
                          try simp only [List.map_cons, List.map_nil, List.nil_append, List.append_nil, List.cons_append, List.singleton_append, zn, pvE] at h111d
                          refine zq fun K kk hK => ?_
                          simp only [go_sem, h111a, h111d, h111e, hl0a, hl0b, hl0d, hl0w]
                          (repeat refine sd ?_)
                          refine hK _ _ fun nx => ?_; clear hK K; try clear kk
                          refine nmx ?_
                          refine zq fun K kk hK => ?_
                          simp only [go_sem, hl0a, hl0b, hl0d, hl0w]
                          refine hK _ _ fun nx => ?_; clear hK K; try clear kk
                          refine nmx ?_
                          have ih' := ih (pre ++ [acL]) (QK + 1) _ _ (by rw [hsplit]; simp) (by simp [hidx]) hh nx
                          refine zH ?_
                          first | exact ih' _ _ _ _ _ | (simp only [pvE, lsE, zn, h87e, h111e] at ih' ⊢; exact ih' _ _ _ _ _) | (simp only [pvE, lsE, zn, h87e, h111e, h102, h104, h106, h77, h78, h89, h91] at ih' ⊢; exact ih' _ _ _ _ _)
                      · rw [if_neg h104] at hh
                        replace h104 := Bool.eq_false_iff.mpr h104
                        refine zb fun K kk hK => ?_
                        simp only [go_sem, h102, of_decide_eq_true h102, h103a, h103b, h103d, h103f.1, h103f.2, h104, hl0a, hl0b, hl0d, hl0w]
                        (repeat refine sd ?_)
                        refine hK _ _ fun nx => ?_; clear hK K; try clear kk
                        refine zh rfl ?_
                        refine zx ?_; refine nmx ?_
                        obtain ⟨arq, h112, hh⟩ := ze hh
                        obtain ⟨h112a, h112c⟩ := zV h112
                        have h112d := qE (f := za.pv) h112c
                        have h112e := qH h112c
                        try simp only [List.length_cons, List.length_nil, Nat.zero_add, Nat.reduceAdd] at h112a h112e
                        try simp only [h112e] at h112a
                        try simp only [List.map_cons, List.map_nil, List.nil_append, List.append_nil, List.cons_append, List.singleton_append, zn, pvE] at h112d
                        refine zq fun K kk hK => ?_
                        simp only [go_sem, h112a, h112d, h112e, hl0a, hl0b, hl0d, hl0w]
                        (repeat refine sd ?_)
                        refine hK _ _ fun nx => ?_; clear hK K; try clear kk
                        refine nmx ?_
                        refine zq fun K kk hK => ?_
                        simp only [go_sem, hl0a, hl0b, hl0d, hl0w]
                        refine hK _ _ fun nx => ?_; clear hK K; try clear kk
                        refine nmx ?_
                        have ih' := ih (pre ++ [acL]) (QK + 1) _ _ (by rw [hsplit]; simp) (by simp [hidx]) hh nx
                        refine zH ?_
                        first | exact ih' _ _ _ _ _ | (simp only [pvE, lsE, zn, h87e, h112e] at ih' ⊢; exact ih' _ _ _ _ _) | (simp only [pvE, lsE, zn, h87e, h112e, h102, h104, h77, h78, h89, h91] at ih' ⊢; exact ih' _ _ _ _ _)
                    · rw [if_neg h102] at hh
                      replace h102 := Bool.eq_false_iff.mpr h102
                      refine zb fun K kk hK => ?_
                      simp only [go_sem, h102, of_decide_eq_false h102, hl0a, hl0b, hl0d, hl0w]
                      (repeat refine sd ?_)
                      refine hK _ _ fun nx => ?_; clear hK K; try clear kk
                      refine zh rfl ?_
                      refine zx ?_; refine nmx ?_
                      obtain ⟨art, h113, hh⟩ := ze hh
                      obtain ⟨h113a, h113c⟩ := zV h113
                      have h113d := qE (f := za.pv) h113c
                      have h113e := qH h113c
                      try simp only [List.length_cons, List.length_nil, Nat.zero_add, Nat.reduceAdd] at h113a h113e
                      try simp only [h113e] at h113a
                      try simp only [List.map_cons, List.map_nil, List.nil_append, List.append_nil, List.cons_append, List.singleton_append, zn, pvE] at h113d
                      refine zq fun K kk hK => ?_
                      simp only [go_sem, h113a, h113d, h113e, hl0a, hl0b, hl0d, hl0w]
                      (repeat refine sd ?_)
                      refine hK _ _ fun nx => ?_; clear hK K; try clear kk
                      refine nmx ?_
                      refine zq fun K kk hK => ?_
                      simp only [go_sem, hl0a, hl0b, hl0d, hl0w]
                      refine hK _ _ fun nx => ?_; clear hK K; try clear kk
                      refine nmx ?_
                      have ih' := ih (pre ++ [acL]) (QK + 1) _ _ (by rw [hsplit]; simp) (by simp [hidx]) hh nx
                      refine zH ?_
                      first | exact ih' _ _ _ _ _ | (simp only [pvE, lsE, zn, h87e, h113e] at ih' ⊢; exact ih' _ _ _ _ _) | (simp only [pvE, lsE, zn, h87e, h113e, h102, h77, h78, h89, h91] at ih' ⊢; exact ih' _ _ _ _ _)
                  · intro i s h
                    obtain ⟨rfl, akk, rfl, nx, g2, g3, g4, g5, g332, rfl⟩ := h
                    try dsimp only at hh
                    refine nmx ?_
                    refine zq fun K kk hK => ?_
                    simp only [go_sem, hl0a, hl0b, hl0d, hl0w]
                    refine hK _ _ fun nx => ?_; clear hK K; try clear kk
                    refine nmx ?_
                    have ih' := ih (pre ++ [acL]) (QK + 1) _ _ (by rw [hsplit]; simp) (by simp [hidx]) hh nx
                    refine zH ?_
                    first | exact ih' _ _ _ _ _ | (simp only [pvE, lsE, zn, h87e] at ih' ⊢; exact ih' _ _ _ _ _) | (simp only [pvE, lsE, zn, h87e, h77, h78, h89, h91] at ih' ⊢; exact ih' _ _ _ _ _)
                  · intro s h; exact h.elim
            · intro i s h; exact h.elim
            · intro s h; exact h.elim
          · intro i s h; exact h.elim
          · intro s h; exact h.elim
        · rw [if_neg h78] at hh
          replace h78 := Bool.eq_false_iff.mpr h78
          refine zh (by first | exact congrArg PV.bool h78 | rfl) ?_
          refine qa ?_; refine nmx ?_
          refine kF ?_
          refine zH ?_
          refine ⟨_, (Option.some.inj hh), ?_⟩
          first | exact ⟨_, _, _, _, _, _, _, _, _, rfl⟩ | (simp only [pvE, lsE, zn]; exact ⟨_, _, _, _, _, _, _, _, _, rfl⟩) | (simp only [pvE, lsE, zn, h77, h78]; exact ⟨_, _, _, _, _, _, _, _, _, rfl⟩)
    exact key l_1 [] _ _ _ rfl rfl f0 _ _ _ _ _ _
  · rintro s ⟨t, hless, an0, rfl, atp, atL, agd, nx, g2, g3, g4, g5, g332, rfl⟩
    try dsimp only at hh
    refine nmy ?_
    first | (refine wu hless ?_; try refine ko ?_) | refine qG hless ?_ | refine qI hless ?_
    refine zb fun K kk hK => ?_
    simp only [go_sem]
    refine hK _ _ fun nx => ?_; clear hK K; try clear kk
    refine zi ?_; refine nmx ?_
    obtain hR := Option.some.inj hh
    subst hR
    exact zy
  · intro i s h; exact h.elim
  · intro s h; exact h.elim
theorem WX (l : Str) (R : (Str × (List UInt8))) (hh : kU l = some R) : BC Tryd.prog 54 [.box 1000 0 0] [.var 101 [.qW 1000 0, .row 1001 0 l.length], .bytes 5 l] (.str R.1) [.var 101 [.qW 1000 0, .undef], .gone] := by
 rw [kU] at hh
 exact abM (ρ := Tryd.XZ) Tryd.aqv Tryd.abJ ⟨_, Tryd.func54, by kernel_rfl, by kernel_rfl⟩ l R hh
theorem QO (l : Str) (R : (List UInt8)) (hh : ky l = some R) : BC Tryd.prog 88 [.box 1000 0 0] [.var 101 [.qW 1000 0, .row 1001 0 l.length], .bytes 5 l] (.tup []) [.var 101 [.qW 1000 0, .row 1001 0 R.length], .bytes 5 R] := by
 rw [ky] at hh
 exact ag5 ⟨_, Tryd.func88, by kernel_rfl, by kernel_rfl⟩ (Any.Builder_copyCheck_fresh (ρ := Tryd.Va) { Tryd.amH with } Tryd.Vf.toX72) (Any.Builder_copyCheck_used (ρ := Tryd.Va) { Tryd.amH with } Tryd.Vf.toX72) l R hh
theorem Z6 (s_1 : Str) (l_2 : (List UInt8)) (R : (Int × (List UInt8))) (hh : qY s_1 l_2 = some R) : BC Tryd.prog 53 [.box 1000 0 0, .str s_1] [.var 101 [.qW 1000 0, .row 1001 0 l_2.length], .bytes 5 l_2] (.tup [.int .i64 R.1, .JZ]) [.var 101 [.qW 1000 0, .row 1001 0 R.2.length], .Wq 5 R.2] := by
  rw [qY] at hh
  refine yT rfl rfl rfl ?_
  refine zb fun K kk hK => ?_
  simp only [go_sem]
  refine hK _ _ fun nx => ?_; clear hK K; try clear kk
  obtain ⟨l_3, h1, hh⟩ := ze hh
  refine zb fun K kk hK => ?_
  simp only [go_sem]
  refine jb [1000, 1001] (by decide) (QO _ _ h1) (by (try simp only [go_sem]) <;> exact wkb) (by rfl) ?_
  simp only [go_sem]
  refine hK _ _ fun nx => ?_; clear hK K; try clear kk
  obtain ⟨l_4, h2, hh⟩ := ze hh
  obtain ⟨h2a, h2c⟩ := zV h2
  have h2d := qE (f := pvB) h2c
  have h2e := qH h2c
  try simp only [List.length_cons, List.length_nil, Nat.zero_add, Nat.reduceAdd] at h2a h2e
  try simp only [h2e] at h2a
  try simp only [List.map_cons, List.map_nil, List.nil_append, List.append_nil, List.cons_append, List.singleton_append, zn, pvE] at h2d
  refine zb fun K kk hK => ?_
  simp only [go_sem, h2a, h2c, h2e]
  (repeat refine sd ?_)
  refine hK _ _ fun nx => ?_; clear hK K; try clear kk
  refine zb fun K kk hK => ?_
  simp only [go_sem]
  refine hK _ _ fun nx => ?_; clear hK K; try clear kk
  refine zi ?_; refine nmx ?_
  obtain hR := Option.some.inj hh
  subst hR
  refine kH ?_ (by rfl) ?_
  · simp only [go_sem, wo, jo, wX, kS, yC, List.map_cons, List.map_append, List.head?_cons]
    all_goals exact wkw
  · (try simp only [go_sem]); (try simp only [List.length_append, List.map_append, h2e]); all_goals exact wkb
end Go.Proofs.YtclohbgnaopjfaaDoor
