/- Texts of the proof of stepAttrsCard -/
import Derived.Test.YtclohbgnaopjfaaDoorAgC
import Derived.Test.YtclohbgnaopjfaaDoorAgF
import Derived.Test.YtclohbgnaopjfaaDoorAgK6
import Derived.Test.YtclohbgnaopjfaaDoorAgK7
import Derived.Test.YtclohbgnaopjfaaDoorAgL
namespace Go.Proofs.YtclohbgnaopjfaaDoor
set_option linter.unusedSimpArgs false
set_option linter.unusedVariables false
open Go
set_option maxRecDepth 100000
theorem YL (l_1 : (List zu)) (R : za) (hh : j4 l_1 = some R) : PC Tryd.prog 25 [.list 4 (l_1.map zu.pv)] (.agg [.str R.Kind, .str R.Text, .list 1 (R.Marks.map PV.str), .list 2 (R.zt.map zf.pv), .list 5 (R.Kids.map za.pv)]) := by
  rw [j4] at hh
  refine JZ rfl ?_
  refine zb fun K kk hK => ?_
  simp only [go_sem]
  refine hK _ _ fun nx => ?_; clear hK K; try clear kk
  refine zb fun K kk hK => ?_
  simp only [go_sem]
  refine hK _ _ fun nx => ?_; clear hK K; try clear kk
  refine zb fun K kk hK => ?_
  simp only [go_sem]
  refine hK _ _ fun nx => ?_; clear hK K; try clear kk
  refine zb fun K kk hK => ?_
  simp only [go_sem]
  refine hK _ _ fun nx => ?_; clear hK K; try clear kk
  refine zm ?_
  refine zb fun K kk hK => ?_
  simp only [go_sem]
  refine hK _ _ fun nx => ?_; clear hK K; try clear kk
  obtain ⟨e0, f0, hh⟩ := ze hh
  obtain ⟨hlen0, f0⟩ := zZ f0
  refine qy (wS (fun s => ∃ aoD, aoD = e0 ∧ ∃ (aum : Int) (avd : Bool) (agb : (List za)) (nx : Nat) (g2 : Nat) (g3 : Nat) (g4 : Nat) (g5 : Nat) (g332 : Nat), s = ⟨[(0, .list 4 (l_1.map zu.pv)), (2, .box 2 g2 0), (3, .row 3 g3 [([97] : Str), ([98, 99] : Str), ([195, 169] : Str), ([120, 32, 121] : Str), ([230, 151, 165, 230, 156, 172] : Str)].length), (4, .box 4 g4 0), (5, .row 5 g5 agb.length), (6, .int .i64 aum), (22, .bool avd)], [(2, g2, .var 28 [.str ([] : Str), .str ([] : Str), .list 1 ([].map PV.str), .list 2 ([].map zf.pv), .list 5 ([].map za.pv)]), (3, g3, .row false 1 ([([97] : Str), ([98, 99] : Str), ([195, 169] : Str), ([120, 32, 121] : Str), ([230, 151, 165, 230, 156, 172] : Str)].map PV.str)), (4, g4, .var 28 [.str ([100, 111, 99] : Str), .str ([] : Str), .list 1 ([].map PV.str), .list 2 ([].map zf.pv), .row 332 g332 aoD.length]), (5, g5, .row false 5 (agb.map za.pv)), (332, g332, .row false 5 (aoD.map za.pv))], nx⟩))
    (fun i s => False)
    (fun s => False) ?_ ?_ ?_ ?_
  · refine zD ?_
    refine qi fun I hI => ?_
    have key : ∀ (suf pre : List zu) (QM : Int) (xC : (List za)) (yO : (List za)), l_1 = pre ++ suf → QM = (pre.length : Int) → zC suf QM xC yO = some e0 → ∀ (nx : Nat) (g2 : Nat) (g3 : Nat) (g4 : Nat) (g5 : Nat) (g332 : Nat), I ⟨[(0, .list 4 (l_1.map zu.pv)), (2, .box 2 g2 0), (3, .row 3 g3 [([97] : Str), ([98, 99] : Str), ([195, 169] : Str), ([120, 32, 121] : Str), ([230, 151, 165, 230, 156, 172] : Str)].length), (4, .box 4 g4 0), (5, .row 5 g5 xC.length), (6, .int .i64 QM)], [(2, g2, .var 28 [.str ([] : Str), .str ([] : Str), .list 1 ([].map PV.str), .list 2 ([].map zf.pv), .list 5 ([].map za.pv)]), (3, g3, .row false 1 ([([97] : Str), ([98, 99] : Str), ([195, 169] : Str), ([120, 32, 121] : Str), ([230, 151, 165, 230, 156, 172] : Str)].map PV.str)), (4, g4, .var 28 [.str ([100, 111, 99] : Str), .str ([] : Str), .list 1 ([].map PV.str), .list 2 ([].map zf.pv), .row 332 g332 yO.length]), (5, g5, .row false 5 (xC.map za.pv)), (332, g332, .row false 5 (yO.map za.pv))], nx⟩ := by
      intro suf
      induction suf with
      | nil =>
        intro pre QM xC yO hsplit hidx hh nx g2 g3 g4 g5 g332
        rw [zC] at hh
        refine hI _ ?_
        have h77 := walk_nil hsplit hidx
        refine zm ?_
        refine zb fun K kk hK => ?_
        simp only [go_sem, h77, of_decide_eq_false h77]
        (repeat refine sd ?_)
        refine hK _ _ fun nx => ?_; clear hK K; try clear kk
        refine zh rfl ?_
        refine qd ?_; refine nmx ?_
        refine kL ?_
        refine zH ?_
        refine ⟨_, (Option.some.inj hh), ?_⟩
        first | exact ⟨_, _, _, _, _, _, _, _, _, rfl⟩ | (simp only [pvE, lsE, zo]; exact ⟨_, _, _, _, _, _, _, _, _, rfl⟩) | (simp only [pvE, lsE, zo, h77]; exact ⟨_, _, _, _, _, _, _, _, _, rfl⟩)
      | cons adK suf ih =>
        intro pre QM xC yO hsplit hidx hh nx g2 g3 g4 g5 g332
        rw [zC] at hh
        refine hI _ ?_
        obtain ⟨hl0a, hl0b, hl0d, hl0w, h77⟩ := qD (f := zu.pv) hsplit hidx hlen0
        refine zm ?_
        refine zb fun K kk hK => ?_
        simp only [go_sem, h77, of_decide_eq_true h77, hl0a, hl0b, hl0d, hl0w]
        (repeat refine sd ?_)
        refine hK _ _ fun nx => ?_; clear hK K; try clear kk
        by_cases h78 : (decide (QM < (40 : Int))) = true
        · rw [if_pos h78] at hh
          refine zk (by first | exact congrArg PV.bool h78 | rfl) ?_
          refine zx ?_; refine nmx ?_
          refine zm ?_
          refine zD ?_
          obtain ⟨anj, h79, hh⟩ := ze hh
          obtain ⟨asr, h80, hh⟩ := ze hh
          obtain ⟨h80a, h80b, h80c⟩ := rd_some h80
          have h80d := kZ (f := PV.str) h80c
          have h80f := wO (f := PV.str) h80c
          try simp only [Int.toNat_natCast, Int.reduceToNat] at h80d h80f
          simp only [List.length_cons, List.length_nil, List.map_cons, List.map_nil, Nat.zero_add, Nat.reduceAdd, reduceCtorEq, not_false_eq_true, and_true, pvE] at h80b h80d h80f
          refine zb fun K kk hK => ?_
          simp only [go_sem, h80a, h80b, h80d, h80f, hl0a, hl0b, hl0d, hl0w]
          (repeat refine sd ?_)
          refine zg (qZ _ _ _ h79) (by (try simp only [go_sem, h80a, h80b, h80d, h80f, hl0a, hl0b, hl0d, hl0w]) <;> exact wkl) (by rfl) (by rfl) ?_
          simp only [go_sem, h80a, h80b, h80d, h80f, hl0a, hl0b, hl0d, hl0w]
          (repeat refine sd ?_)
          refine hK _ _ fun nx => ?_; clear hK K; try clear kk
          refine zm ?_
          obtain ⟨e7, f7, hh⟩ := ze hh
          refine Jz (fun s => ∃ amC, amC = e7 ∧ ∃ (nx : Nat) (g2 : Nat) (g3 : Nat) (g4 : Nat) (g5 : Nat) (g7 : Nat) (g332 : Nat) (g351 : Nat), s = ⟨[(0, .list 4 (l_1.map zu.pv)), (2, .box 2 g2 0), (3, .row 3 g3 [([97] : Str), ([98, 99] : Str), ([195, 169] : Str), ([120, 32, 121] : Str), ([230, 151, 165, 230, 156, 172] : Str)].length), (4, .box 4 g4 0), (5, .row 5 g5 xC.length), (6, .int .i64 QM), (7, .box 7 g7 0)], [(2, g2, .var 28 [.str ([] : Str), .str ([] : Str), .list 1 ([].map PV.str), .list 2 ([].map zf.pv), .list 5 ([].map za.pv)]), (3, g3, .row false 1 ([([97] : Str), ([98, 99] : Str), ([195, 169] : Str), ([120, 32, 121] : Str), ([230, 151, 165, 230, 156, 172] : Str)].map PV.str)), (4, g4, .var 28 [.str ([100, 111, 99] : Str), .str ([] : Str), .list 1 ([].map PV.str), .list 2 ([].map zf.pv), .row 332 g332 yO.length]), (5, g5, .row false 5 (xC.map za.pv)), (7, g7, .var 28 [.str ([116, 101, 120, 116] : Str), .str asr, .row 351 g351 amC.length, .list 2 ([].map zf.pv), .list 5 ([].map za.pv)]), (332, g332, .row false 5 (yO.map za.pv)), (351, g351, .row false 1 (amC.map PV.str))], nx⟩)
            (fun i s => False)
            (fun s => False) ?_ ?_ ?_ ?_
          · have hh := f7
            obtain ⟨acm, h81, hh⟩ := ze hh
            refine zb fun K kk hK => ?_
            simp only [go_sem, hl0a, hl0b, hl0d, hl0w]
            refine zg (qZ _ _ _ h81) (by (try simp only [go_sem, hl0a, hl0b, hl0d, hl0w]) <;> exact wkl) (by rfl) (by rfl) ?_
            simp only [go_sem, hl0a, hl0b, hl0d, hl0w]
            refine hK _ _ fun nx => ?_; clear hK K; try clear kk
            by_cases h82 : ((ahO acm (1 : Int)) == (1 : Int)) = true
            · rw [if_pos h82] at hh
              refine zk (by first | exact congrArg PV.bool h82 | rfl) ?_
              obtain ⟨amv, h83, hh⟩ := ze hh
              obtain ⟨h83a, h83c⟩ := zX h83
              have h83d := qH (f := PV.str) h83c
              have h83e := (qG h83c).symm
              try simp only [List.length_cons, List.length_nil, Nat.zero_add, Nat.reduceAdd] at h83a h83e
              try simp only [List.map_cons, List.map_nil, List.nil_append, List.append_nil, List.cons_append, List.singleton_append, zo, pvE] at h83d
              have h83g := akl (f := PV.str) h83e
              have h83h := ari h83e h83a
              refine zq fun K kk hK => ?_
              simp only [go_sem, h83a, h83d, eq_true h83e, eq_true (Nat.le_of_eq h83e.symm), h83g, hl0a, hl0b, hl0d, hl0w]
              (repeat refine sd ?_)
              refine hK _ _ fun nx => ?_; clear hK K; try clear kk
              refine nmx ?_
              refine kL ?_
              refine zH ?_
              refine ⟨_, (Option.some.inj hh), ?_⟩
              first | exact ⟨_, _, _, _, _, _, _, _, rfl⟩ | (simp only [pvE, lsE, zo, h83e]; exact ⟨_, _, _, _, _, _, _, _, rfl⟩) | (simp only [pvE, lsE, zo, h83e, h77, h78, h82]; exact ⟨_, _, _, _, _, _, _, _, rfl⟩)
            · rw [if_neg h82] at hh
              replace h82 := Bool.eq_false_iff.mpr h82
              refine zh (by first | exact congrArg PV.bool h82 | rfl) ?_
              refine zx ?_; refine nmx ?_
              refine kL ?_
              refine aqB (akg _ [0, 2, 3, 4, 5, 6, 7] [2, 3, 4, 5, 7, 332, 351]) ?_
              refine ⟨_, (Option.some.inj hh), ?_⟩
              first | exact ⟨_, _, _, _, _, _, _, _, rfl⟩ | (simp only [pvE, lsE, zo]; exact ⟨_, _, _, _, _, _, _, _, rfl⟩) | (simp only [pvE, lsE, zo, h77, h78, h82]; exact ⟨_, _, _, _, _, _, _, _, rfl⟩)
          · rintro s ⟨amC, rfl, nx, g2, g3, g4, g5, g7, g332, g351, rfl⟩
            try dsimp only at hh
            refine zm ?_
            obtain ⟨e8, f8, hh⟩ := ze hh
            refine Jz (fun s => ∃ aoE, aoE = e8 ∧ ∃ (nx : Nat) (g2 : Nat) (g3 : Nat) (g4 : Nat) (g5 : Nat) (g7 : Nat) (g332 : Nat) (g351 : Nat), s = ⟨[(0, .list 4 (l_1.map zu.pv)), (2, .box 2 g2 0), (3, .row 3 g3 [([97] : Str), ([98, 99] : Str), ([195, 169] : Str), ([120, 32, 121] : Str), ([230, 151, 165, 230, 156, 172] : Str)].length), (4, .box 4 g4 0), (5, .row 5 g5 xC.length), (6, .int .i64 QM), (7, .box 7 g7 0)], [(2, g2, .var 28 [.str ([] : Str), .str ([] : Str), .list 1 ([].map PV.str), .list 2 ([].map zf.pv), .list 5 ([].map za.pv)]), (3, g3, .row false 1 ([([97] : Str), ([98, 99] : Str), ([195, 169] : Str), ([120, 32, 121] : Str), ([230, 151, 165, 230, 156, 172] : Str)].map PV.str)), (4, g4, .var 28 [.str ([100, 111, 99] : Str), .str ([] : Str), .list 1 ([].map PV.str), .list 2 ([].map zf.pv), .row 332 g332 yO.length]), (5, g5, .row false 5 (xC.map za.pv)), (7, g7, .var 28 [.str ([116, 101, 120, 116] : Str), .str asr, .row 351 g351 aoE.length, .list 2 ([].map zf.pv), .list 5 ([].map za.pv)]), (332, g332, .row false 5 (yO.map za.pv)), (351, g351, .row false 1 (aoE.map PV.str))], nx⟩)
              (fun i s => False)
              (fun s => False) ?_ ?_ ?_ ?_
            · have hh := f8
              obtain ⟨ab4, h84, hh⟩ := ze hh
              refine zb fun K kk hK => ?_
              simp only [go_sem, hl0a, hl0b, hl0d, hl0w]
              refine zg (qZ _ _ _ h84) (by (try simp only [go_sem, hl0a, hl0b, hl0d, hl0w]) <;> exact wkl) (by rfl) (by rfl) ?_
              simp only [go_sem, hl0a, hl0b, hl0d, hl0w]
              refine hK _ _ fun nx => ?_; clear hK K; try clear kk
              by_cases h85 : ((ahO ab4 (2 : Int)) == (2 : Int)) = true
              · rw [if_pos h85] at hh
                refine zk (by first | exact congrArg PV.bool h85 | rfl) ?_
                obtain ⟨arv, h86, hh⟩ := ze hh
                obtain ⟨h86a, h86c⟩ := zX h86
                have h86d := qH (f := PV.str) h86c
                have h86e := qG h86c
                try simp only [List.length_cons, List.length_nil, Nat.zero_add, Nat.reduceAdd] at h86a h86e
                try simp only [h86e] at h86a
                try simp only [List.map_cons, List.map_nil, List.nil_append, List.append_nil, List.cons_append, List.singleton_append, zo, pvE] at h86d
                refine zq fun K kk hK => ?_
                simp only [go_sem, h86a, h86d, h86e, hl0a, hl0b, hl0d, hl0w]
                (repeat refine sd ?_)
                refine hK _ _ fun nx => ?_; clear hK K; try clear kk
                refine nmx ?_
                refine kL ?_
                refine zH ?_
                refine ⟨_, (Option.some.inj hh), ?_⟩
                first | exact ⟨_, _, _, _, _, _, _, _, rfl⟩ | (simp only [pvE, lsE, zo, h86e]; exact ⟨_, _, _, _, _, _, _, _, rfl⟩) | (simp only [pvE, lsE, zo, h86e, h77, h78, h85]; exact ⟨_, _, _, _, _, _, _, _, rfl⟩)
              · rw [if_neg h85] at hh
                replace h85 := Bool.eq_false_iff.mpr h85
                refine zh (by first | exact congrArg PV.bool h85 | rfl) ?_
                refine zx ?_; refine nmx ?_
                refine kL ?_
                refine aqB (akg _ [0, 2, 3, 4, 5, 6, 7] [2, 3, 4, 5, 7, 332, 351]) ?_
                refine ⟨_, (Option.some.inj hh), ?_⟩
                first | exact ⟨_, _, _, _, _, _, _, _, rfl⟩ | (simp only [pvE, lsE, zo]; exact ⟨_, _, _, _, _, _, _, _, rfl⟩) | (simp only [pvE, lsE, zo, h77, h78, h85]; exact ⟨_, _, _, _, _, _, _, _, rfl⟩)
            · rintro s ⟨aoE, rfl, nx, g2, g3, g4, g5, g7, g332, g351, rfl⟩
              try dsimp only at hh
              obtain ⟨at1, h87, hh⟩ := ze hh
              obtain ⟨h87a, h87c⟩ := zX h87
              have h87d := qH (f := za.pv) h87c
              have h87e := qG h87c
              try simp only [List.length_cons, List.length_nil, Nat.zero_add, Nat.reduceAdd] at h87a h87e
              try simp only [h87e] at h87a
              try simp only [List.map_cons, List.map_nil, List.nil_append, List.append_nil, List.cons_append, List.singleton_append, zo, pvE] at h87d
              refine zb fun K kk hK => ?_
              simp only [go_sem, h87a, h87d, h87e, hl0a, hl0b, hl0d, hl0w]
              (repeat refine sd ?_)
              refine hK _ _ fun nx => ?_; clear hK K; try clear kk
              obtain ⟨JK, h88, hh⟩ := ze hh
              refine zb fun K kk hK => ?_
              simp only [go_sem, hl0a, hl0b, hl0d, hl0w]
              refine zg (qZ _ _ _ h88) (by (try simp only [go_sem, hl0a, hl0b, hl0d, hl0w]) <;> exact wkl) (by rfl) (by rfl) ?_
              simp only [go_sem, hl0a, hl0b, hl0d, hl0w]
              refine hK _ _ fun nx => ?_; clear hK K; try clear kk
              refine zm ?_
              refine zb fun K kk hK => ?_
              simp only [go_sem, hl0a, hl0b, hl0d, hl0w]
              refine hK _ _ fun nx => ?_; clear hK K; try clear kk
              by_cases h89 : (JK == (0 : Int)) = true
              · rw [if_pos h89] at hh
                refine zk (by first | exact congrArg PV.bool h89 | rfl) ?_
                refine qd ?_; refine nmx ?_
                refine zq fun K kk hK => ?_
                simp only [go_sem, hl0a, hl0b, hl0d, hl0w]
                refine hK _ _ fun nx => ?_; clear hK K; try clear kk
                refine nmx ?_
                have ih' := ih (pre ++ [adK]) (QM + 1) _ _ (by rw [hsplit]; simp) (by simp [hidx]) hh nx
                refine zH ?_
                first | exact ih' _ _ _ _ _ | (simp only [pvE, lsE, zo, h87e] at ih' ⊢; exact ih' _ _ _ _ _) | (simp only [pvE, lsE, zo, h87e, h77, h78, h89] at ih' ⊢; exact ih' _ _ _ _ _)
              · rw [if_neg h89] at hh
                replace h89 := Bool.eq_false_iff.mpr h89
                refine zh (by first | exact congrArg PV.bool h89 | rfl) ?_
                refine zx ?_; refine nmx ?_
                obtain ⟨jW, h90, hh⟩ := ze hh
                refine zb fun K kk hK => ?_
                simp only [go_sem, hl0a, hl0b, hl0d, hl0w]
                refine zg (XX _ _ _ h90) (by (try simp only [go_sem, hl0a, hl0b, hl0d, hl0w]) <;> exact wkl) (by rfl) (by rfl) ?_
                simp only [go_sem, hl0a, hl0b, hl0d, hl0w]
                refine hK _ _ fun nx => ?_; clear hK K; try clear kk
                refine zb fun K kk hK => ?_
                simp only [go_sem, hl0a, hl0b, hl0d, hl0w]
                refine hK _ _ fun nx => ?_; clear hK K; try clear kk
                refine zb fun K kk hK => ?_
                simp only [go_sem, hl0a, hl0b, hl0d, hl0w]
                refine hK _ _ fun nx => ?_; clear hK K; try clear kk
                refine zm ?_
                refine zb fun K kk hK => ?_
                simp only [go_sem, hl0a, hl0b, hl0d, hl0w]
                refine hK _ _ fun nx => ?_; clear hK K; try clear kk
                by_cases h91 : (decide (JK < (3 : Int))) = true
                · rw [if_pos h91] at hh
                  refine zk (by first | exact congrArg PV.bool h91 | rfl) ?_
                  obtain ⟨ar1, h92, hh⟩ := ze hh
                  obtain ⟨h92a, h92c⟩ := zX h92
                  have h92d := qH (f := za.pv) h92c
                  have h92e := qG h92c
                  try simp only [List.length_cons, List.length_nil, Nat.zero_add, Nat.reduceAdd] at h92a h92e
                  try simp only [h92e] at h92a
                  try simp only [List.map_cons, List.map_nil, List.nil_append, List.append_nil, List.cons_append, List.singleton_append, zo, pvE] at h92d
                  refine zb fun K kk hK => ?_
                  simp only [go_sem, h92a, h92d, h92e, hl0a, hl0b, hl0d, hl0w]
                  (repeat refine sd ?_)
                  refine hK _ _ fun nx => ?_; clear hK K; try clear kk
                  refine qd ?_; refine nmx ?_
                  refine zq fun K kk hK => ?_
                  simp only [go_sem, hl0a, hl0b, hl0d, hl0w]
                  refine hK _ _ fun nx => ?_; clear hK K; try clear kk
                  refine nmx ?_
                  have ih' := ih (pre ++ [adK]) (QM + 1) _ _ (by rw [hsplit]; simp) (by simp [hidx]) hh nx
                  refine zH ?_
                  first | exact ih' _ _ _ _ _ | (simp only [pvE, lsE, zo, h87e, h92e] at ih' ⊢; exact ih' _ _ _ _ _) | (simp only [pvE, lsE, zo, h87e, h92e, h77, h78, h89, h91] at ih' ⊢; exact ih' _ _ _ _ _)
                · rw [if_neg h91] at hh
                  replace h91 := Bool.eq_false_iff.mpr h91
                  refine zh (by first | exact congrArg PV.bool h91 | rfl) ?_
                  refine zx ?_; refine nmx ?_
                  refine zb fun K kk hK => ?_
                  simp only [go_sem, hl0a, hl0b, hl0d, hl0w]
                  refine hK _ _ fun nx => ?_; clear hK K; try clear kk
                  refine zm ?_
                  obtain ⟨e9, f9, hh⟩ := ze hh
                  refine Jz (fun s => .inr () = e9 ∧ ∃ (au6 : Bool) (nx : Nat) (g2 : Nat) (g3 : Nat) (g4 : Nat) (g5 : Nat) (g11 : Nat) (g332 : Nat) (g381 : Nat), s = ⟨[(0, .list 4 (l_1.map zu.pv)), (2, .box 2 g2 0), (3, .row 3 g3 [([97] : Str), ([98, 99] : Str), ([195, 169] : Str), ([120, 32, 121] : Str), ([230, 151, 165, 230, 156, 172] : Str)].length), (4, .box 4 g4 0), (5, .row 5 g5 ([] : List za).length), (6, .int .i64 QM), (10, .int .i64 (w64 ((yO.length : Int) - (1 : Int)))), (11, .box 11 g11 0), (108, .bool au6)], [(2, g2, .var 28 [.str ([] : Str), .str ([] : Str), .list 1 ([].map PV.str), .list 2 ([].map zf.pv), .list 5 ([].map za.pv)]), (3, g3, .row false 1 ([([97] : Str), ([98, 99] : Str), ([195, 169] : Str), ([120, 32, 121] : Str), ([230, 151, 165, 230, 156, 172] : Str)].map PV.str)), (4, g4, .var 28 [.str ([100, 111, 99] : Str), .str ([] : Str), .list 1 ([].map PV.str), .list 2 ([].map zf.pv), .row 332 g332 yO.length]), (5, g5, .row false 5 (([] : List za).map za.pv)), (11, g11, .var 28 [.str ([105, 116, 101, 109] : Str), .str ([] : Str), .list 1 ([].map PV.str), .list 2 ([].map zf.pv), .row 381 g381 [jW].length]), (332, g332, .row false 5 (yO.map za.pv)), (381, g381, .row false 5 ([jW].map za.pv))], nx⟩)
                    (fun i s => (i = 1 ∧ ∃ akS, .inl akS = e9 ∧ ∃ (nx : Nat) (g2 : Nat) (g3 : Nat) (g4 : Nat) (g5 : Nat) (g332 : Nat), s = ⟨[(0, .list 4 (l_1.map zu.pv)), (2, .box 2 g2 0), (3, .row 3 g3 [([97] : Str), ([98, 99] : Str), ([195, 169] : Str), ([120, 32, 121] : Str), ([230, 151, 165, 230, 156, 172] : Str)].length), (4, .box 4 g4 0), (5, .row 5 g5 ([] : List za).length), (6, .int .i64 QM)], [(2, g2, .var 28 [.str ([] : Str), .str ([] : Str), .list 1 ([].map PV.str), .list 2 ([].map zf.pv), .list 5 ([].map za.pv)]), (3, g3, .row false 1 ([([97] : Str), ([98, 99] : Str), ([195, 169] : Str), ([120, 32, 121] : Str), ([230, 151, 165, 230, 156, 172] : Str)].map PV.str)), (4, g4, .var 28 [.str ([100, 111, 99] : Str), .str ([] : Str), .list 1 ([].map PV.str), .list 2 ([].map zf.pv), .row 332 g332 akS.length]), (5, g5, .row false 5 (([] : List za).map za.pv)), (332, g332, .row false 5 (akS.map za.pv))], nx⟩))
                    (fun s => False) ?_ ?_ ?_ ?_
                  · have hh := f9
                    by_cases h93 : (decide ((w64 ((yO.length : Int) - (1 : Int))) ≥ (0 : Int))) = true
                    · rw [if_pos h93] at hh
                      obtain ⟨ajl, h94, hh⟩ := ze hh
                      obtain ⟨h94a, h94b, h94c⟩ := rd_some h94
                      have h94d := kZ (f := za.pv) h94c
                      have h94f := wO (f := za.pv) h94c
                      try simp only [Int.toNat_natCast, Int.reduceToNat] at h94d h94f
                      by_cases h95 : (ajl.Kind == ([108, 105, 115, 116] : Str)) = true
                      · rw [if_pos h95] at hh
                        refine zb fun K kk hK => ?_
                        simp only [go_sem, h93, of_decide_eq_true h93, h94a, h94b, h94d, h94f.1, h94f.2, h95, hl0a, hl0b, hl0d, hl0w]
                        (repeat refine sd ?_)
                        refine hK _ _ fun nx => ?_; clear hK K; try clear kk
                        by_cases h96 : (JK == (3 : Int)) = true
                        · rw [if_pos h96] at hh
                          refine zk (by first | exact congrArg PV.bool h96 | rfl) ?_
                          refine zb fun K kk hK => ?_
                          simp only [go_sem, h94a, h94b, h94d, h94f.1, h94f.2, hl0a, hl0b, hl0d, hl0w]
                          (repeat refine sd ?_)
                          refine hK _ _ fun nx => ?_; clear hK K; try clear kk
                          obtain ⟨amK, h97, hh⟩ := ze hh
                          obtain ⟨h97a, h97c⟩ := zX h97
                          have h97d := qH (f := za.pv) h97c
                          have h97e := qG h97c
                          try simp only [List.length_cons, List.length_nil, Nat.zero_add, Nat.reduceAdd] at h97a h97e
                          try simp only [h97e] at h97a
                          try simp only [List.map_cons, List.map_nil, List.nil_append, List.append_nil, List.cons_append, List.singleton_append, zo, pvE] at h97d
                          obtain ⟨aru, h98, hh⟩ := ze hh
                          obtain ⟨h98a, h98c⟩ := zX h98
                          have h98d := qH (f := za.pv) h98c
                          have h98e := qG h98c
                          try simp only [List.length_cons, List.length_nil, Nat.zero_add, Nat.reduceAdd] at h98a h98e
                          try simp only [h98e] at h98a
                          try simp only [List.map_cons, List.map_nil, List.nil_append, List.append_nil, List.cons_append, List.singleton_append, zo, pvE] at h98d
                          refine amO (.nrm 11 [none, none, none, none, some 5]) ?_
                          refine zb fun K kk hK => ?_
                          simp only [go_sem, h97a, h97d, h97e, h98a, h98d, h98e, hl0a, hl0b, hl0d, hl0w]
                          (repeat refine sd ?_)
                          refine hK _ _ fun nx => ?_; clear hK K; try clear kk
                          obtain ⟨arL, h99, hh⟩ := ze hh
                          obtain ⟨h99a, h99c⟩ := Q7 h99
                          have h99g := aam h99a
                          have h99d := YJ (f := za.pv) h99c
                          try simp only [Int.toNat_natCast, Int.reduceToNat, List.map_cons, List.map_nil, pvE] at h99d
                          obtain ⟨arT, h100, hh⟩ := ze hh
                          obtain ⟨h100a, h100c⟩ := zX h100
                          have h100d := qH (f := za.pv) h100c
                          have h100e := qG h100c
                          try simp only [List.length_cons, List.length_nil, Nat.zero_add, Nat.reduceAdd] at h100a h100e
                          try simp only [h100e] at h100a
                          try simp only [List.map_cons, List.map_nil, List.nil_append, List.append_nil, List.cons_append, List.singleton_append, zo, pvE] at h100d
                          obtain ⟨ar2, h101, hh⟩ := ze hh
                          obtain ⟨h101a, h101c⟩ := zX h101
                          have h101d := qH (f := za.pv) h101c
                          have h101e := qG h101c
                          try simp only [List.length_cons, List.length_nil, Nat.zero_add, Nat.reduceAdd] at h101a h101e
                          try simp only [h101e] at h101a
                          try simp only [List.map_cons, List.map_nil, List.nil_append, List.append_nil, List.cons_append, List.singleton_append, zo, pvE] at h101d
                          refine zb fun K kk hK => ?_
                          simp only [go_sem, h99a.1, h99a.2.1, h99a.2.2, h99d, h99g, h100a, h100d, h100e, h101a, h101d, h101e, hl0a, hl0b, hl0d, hl0w]
                          (repeat refine sd ?_)
                          refine hK _ _ fun nx => ?_; clear hK K; try clear kk
                          refine qd ?_; refine nmx ?_
                          refine aqJ ⟨rfl, _, (Option.some.inj hh), ?_⟩
                          first | exact ⟨_, _, _, _, _, _, rfl⟩ | (simp only [pvE, lsE, zo, h87e, h97e, h97d, h98e, h100e, h100d, h101e]; exact ⟨_, _, _, _, _, _, rfl⟩) | (simp only [pvE, lsE, zo, h87e, h97e, h97d, h98e, h100e, h100d, h101e, h77, h78, h89, h91, h93, h95, h96]; exact ⟨_, _, _, _, _, _, rfl⟩)
                        · rw [if_neg h96] at hh
                          replace h96 := Bool.eq_false_iff.mpr h96
                          refine zh (by first | exact congrArg PV.bool h96 | rfl) ?_
                          refine zx ?_; refine nmx ?_
                          refine kL ?_
                          refine zH ?_
                          refine ⟨(Option.some.inj hh), ?_⟩
                          first | exact ⟨_, _, _, _, _, _, _, _, _, rfl⟩ | (simp only [pvE, lsE, zo, h87e]; exact ⟨_, _, _, _, _, _, _, _, _, rfl⟩) | (simp only [pvE, lsE, zo, h87e, h77, h78, h89, h91, h93, h95, h96]; exact ⟨_, _, _, _, _, _, _, _, _, rfl⟩)
                      · rw [if_neg h95] at hh
                        replace h95 := Bool.eq_false_iff.mpr h95
                        refine zb fun K kk hK => ?_
                        simp only [go_sem, h93, of_decide_eq_true h93, h94a, h94b, h94d, h94f.1, h94f.2, h95, hl0a, hl0b, hl0d, hl0w]
                        (repeat refine sd ?_)
                        refine hK _ _ fun nx => ?_; clear hK K; try clear kk
                        refine zh rfl ?_
                        refine zx ?_; refine nmx ?_
                        refine kL ?_
                        refine zH ?_
                        refine ⟨(Option.some.inj hh), ?_⟩
                        first | exact ⟨_, _, _, _, _, _, _, _, _, rfl⟩ | (simp only [pvE, lsE, zo, h87e]; exact ⟨_, _, _, _, _, _, _, _, _, rfl⟩) | (simp only [pvE, lsE, zo, h87e, h77, h78, h89, h91, h93, h95]; exact ⟨_, _, _, _, _, _, _, _, _, rfl⟩)
                    · rw [if_neg h93] at hh
                      replace h93 := Bool.eq_false_iff.mpr h93
                      refine zb fun K kk hK => ?_
                      simp only [go_sem, h93, of_decide_eq_false h93, hl0a, hl0b, hl0d, hl0w]
                      (repeat refine sd ?_)
                      refine hK _ _ fun nx => ?_; clear hK K; try clear kk
                      refine zh rfl ?_
                      refine zx ?_; refine nmx ?_
                      refine kL ?_
                      refine zH ?_
                      refine ⟨(Option.some.inj hh), ?_⟩
                      first | exact ⟨_, _, _, _, _, _, _, _, _, rfl⟩ | (simp only [pvE, lsE, zo, h87e]; exact ⟨_, _, _, _, _, _, _, _, _, rfl⟩) | (simp only [pvE, lsE, zo, h87e, h77, h78, h89, h91, h93]; exact ⟨_, _, _, _, _, _, _, _, _, rfl⟩)
                  · rintro s ⟨rfl, au6, nx, g2, g3, g4, g5, g11, g332, g381, rfl⟩
                    try dsimp only at hh
                    refine zm ?_
                    by_cases h102 : (decide ((w64 ((yO.length : Int) - (1 : Int))) ≥ (0 : Int))) = true
                    · rw [if_pos h102] at hh
                      obtain ⟨aiY, h103, hh⟩ := ze hh
                      obtain ⟨h103a, h103b, h103c⟩ := rd_some h103
                      have h103d := kZ (f := za.pv) h103c
                      have h103f := wO (f := za.pv) h103c
                      try simp only [Int.toNat_natCast, Int.reduceToNat] at h103d h103f
                      by_cases h104 : (aiY.Kind == ([108, 105, 115, 116] : Str)) = true
                      · rw [if_pos h104] at hh
                        obtain ⟨XB, h105, hh⟩ := ze hh
                        refine zb fun K kk hK => ?_
                        simp only [go_sem, h102, of_decide_eq_true h102, h103a, h103b, h103d, h103f.1, h103f.2, h104, hl0a, hl0b, hl0d, hl0w]
                        (repeat refine sd ?_)
                        refine zg (X4 _ _ h105) (by (try simp only [go_sem, h102, of_decide_eq_true h102, h103a, h103b, h103d, h103f.1, h103f.2, h104, hl0a, hl0b, hl0d, hl0w]) <;> exact wkl) (by rfl) (by rfl) ?_
                        simp only [go_sem, h102, of_decide_eq_true h102, h103a, h103b, h103d, h103f.1, h103f.2, h104, hl0a, hl0b, hl0d, hl0w]
                        (repeat refine sd ?_)
                        refine hK _ _ fun nx => ?_; clear hK K; try clear kk
                        by_cases h106 : (decide (XB < (30 : Int))) = true
                        · rw [if_pos h106] at hh
                          refine zk (by first | exact congrArg PV.bool h106 | rfl) ?_
                          obtain ⟨art, h107, hh⟩ := ze hh
                          obtain ⟨h107a, h107c⟩ := zX h107
                          have h107d := qH (f := za.pv) h107c
                          have h107e := (qG h107c).symm
                          try simp only [List.length_cons, List.length_nil, Nat.zero_add, Nat.reduceAdd] at h107a h107e
                          try simp only [List.map_cons, List.map_nil, List.nil_append, List.append_nil, List.cons_append, List.singleton_append, zo, pvE] at h107d
                          have h107g := akl (f := za.pv) h107e
                          have h107h := ari h107e h107a
                          refine zb fun K kk hK => ?_
                          simp only [go_sem, h103a, h103b, h103d, h103f.1, h103f.2, h107a, h107d, eq_true h107e, eq_true (Nat.le_of_eq h107e.symm), h107g, hl0a, hl0b, hl0d, hl0w]
                          (repeat refine sd ?_)
                          refine hK _ _ fun nx => ?_; clear hK K; try clear kk
                          obtain ⟨arW, h108, hh⟩ := ze hh
                          obtain ⟨h108a, h108c⟩ := Q7 h108
                          have h108g := aam h108a
                          have h108d := YJ (f := za.pv) h108c
                          try simp only [Int.toNat_natCast, Int.reduceToNat, List.map_cons, List.map_nil, pvE] at h108d
                          obtain ⟨ar4, h109, hh⟩ := ze hh
                          obtain ⟨h109a, h109c⟩ := zX h109
                          have h109d := qH (f := za.pv) h109c
                          have h109e := qG h109c
                          try simp only [List.length_cons, List.length_nil, Nat.zero_add, Nat.reduceAdd] at h109a h109e
                          try simp only [h109e] at h109a
                          try simp only [List.map_cons, List.map_nil, List.nil_append, List.append_nil, List.cons_append, List.singleton_append, zo, pvE] at h109d
                          refine zq fun K kk hK => ?_
                          simp only [go_sem, h108a.1, h108a.2.1, h108a.2.2, h108d, h108g, h109a, h109d, h109e, eq_true h107e, eq_true (Nat.le_of_eq h107e.symm), h107g, hl0a, hl0b, hl0d, hl0w]
                          (repeat refine sd ?_)
                          refine hK _ _ fun nx => ?_; clear hK K; try clear kk
                          refine nmx ?_
                          obtain ⟨asx, h110, hh⟩ := ze hh
                          obtain ⟨h110a, h110c⟩ := zX h110
                          have h110d := qH (f := za.pv) h110c
                          have h110e := qG h110c
                          try simp only [List.length_cons, List.length_nil, Nat.zero_add, Nat.reduceAdd] at h110a h110e
                          try simp only [h110e] at h110a
                          try simp only [List.map_cons, List.map_nil, List.nil_append, List.append_nil, List.cons_append, List.singleton_append, zo, pvE] at h110d
                          refine zq fun K kk hK => ?_
                          simp only [go_sem, h110a, h110d, h110e, eq_true h107e, eq_true (Nat.le_of_eq h107e.symm), h107g, hl0a, hl0b, hl0d, hl0w]
                          (repeat refine sd ?_)
                          refine hK _ _ fun nx => ?_; clear hK K; try clear kk
                          refine nmx ?_
                          refine zq fun K kk hK => ?_
                          simp only [go_sem, eq_true h107e, eq_true (Nat.le_of_eq h107e.symm), h107g, hl0a, hl0b, hl0d, hl0w]
                          refine hK _ _ fun nx => ?_; clear hK K; try clear kk
                          refine nmx ?_
                          have ih' := ih (pre ++ [adK]) (QM + 1) _ _ (by rw [hsplit]; simp) (by simp [hidx]) hh nx
                          refine zH ?_
                          first | exact ih' _ _ _ _ _ | (simp only [pvE, lsE, zo, h87e, h107e, h109e, h109d, h110e] at ih' ⊢; exact ih' _ _ _ _ _) | (simp only [pvE, lsE, zo, h87e, h107e, h109e, h109d, h110e, h102, h104, h106, h77, h78, h89, h91] at ih' ⊢; exact ih' _ _ _ _ _)
                        · rw [if_neg h106] at hh
                          replace h106 := Bool.eq_false_iff.mpr h106
                          refine zh (by first | exact congrArg PV.bool h106 | rfl) ?_
                          refine zx ?_; refine nmx ?_
                          obtain ⟨arV, h111, hh⟩ := ze hh
                          obtain ⟨h111a, h111c⟩ := zX h111
                          have h111d := qH (f := za.pv) h111c
                          have h111e := qG h111c
                          try simp only [List.length_cons, List.length_nil, Nat.zero_add, Nat.reduceAdd] at h111a h111e
                          try simp only [h111e] at h111a
                          try simp only [List.map_cons, List.map_nil, List.nil_append, List.append_nil, List.cons_append, List.singleton_append, zo, pvE] at h111d
                          refine zq fun K kk hK => ?_
                          simp only [go_sem, h111a, h111d, h111e, hl0a, hl0b, hl0d, hl0w]
                          (repeat refine sd ?_)
                          refine hK _ _ fun nx => ?_; clear hK K; try clear kk
                          refine nmx ?_
                          refine zq fun K kk hK => ?_
                          simp only [go_sem, hl0a, hl0b, hl0d, hl0w]
                          refine hK _ _ fun nx => ?_; clear hK K; try clear kk
                          refine nmx ?_
                          have ih' := ih (pre ++ [adK]) (QM + 1) _ _ (by rw [hsplit]; simp) (by simp [hidx]) hh nx
                          refine zH ?_
                          first | exact ih' _ _ _ _ _ | (simp only [pvE, lsE, zo, h87e, h111e] at ih' ⊢; exact ih' _ _ _ _ _) | (simp only [pvE, lsE, zo, h87e, h111e, h102, h104, h106, h77, h78, h89, h91] at ih' ⊢; exact ih' _ _ _ _ _)
                      · rw [if_neg h104] at hh
                        replace h104 := Bool.eq_false_iff.mpr h104
                        refine zb fun K kk hK => ?_
                        simp only [go_sem, h102, of_decide_eq_true h102, h103a, h103b, h103d, h103f.1, h103f.2, h104, hl0a, hl0b, hl0d, hl0w]
                        (repeat refine sd ?_)
                        refine hK _ _ fun nx => ?_; clear hK K; try clear kk
                        refine zh rfl ?_
                        refine zx ?_; refine nmx ?_
                        obtain ⟨ast, h112, hh⟩ := ze hh
                        obtain ⟨h112a, h112c⟩ := zX h112
                        have h112d := qH (f := za.pv) h112c
                        have h112e := qG h112c
                        try simp only [List.length_cons, List.length_nil, Nat.zero_add, Nat.reduceAdd] at h112a h112e
                        try simp only [h112e] at h112a
                        try simp only [List.map_cons, List.map_nil, List.nil_append, List.append_nil, List.cons_append, List.singleton_append, zo, pvE] at h112d
                        refine zq fun K kk hK => ?_
                        simp only [go_sem, h112a, h112d, h112e, hl0a, hl0b, hl0d, hl0w]
                        (repeat refine sd ?_)
                        refine hK _ _ fun nx => ?_; clear hK K; try clear kk
                        refine nmx ?_
                        refine zq fun K kk hK => ?_
                        simp only [go_sem, hl0a, hl0b, hl0d, hl0w]
                        refine hK _ _ fun nx => ?_; clear hK K; try clear kk
                        refine nmx ?_
                        have ih' := ih (pre ++ [adK]) (QM + 1) _ _ (by rw [hsplit]; simp) (by simp [hidx]) hh nx
                        refine zH ?_
                        first | exact ih' _ _ _ _ _ | (simp only [pvE, lsE, zo, h87e, h112e] at ih' ⊢; exact ih' _ _ _ _ _) | (simp only [pvE, lsE, zo, h87e, h112e, h102, h104, h77, h78, h89, h91] at ih' ⊢; exact ih' _ _ _ _ _)
                    · rw [if_neg h102] at hh
                      replace h102 := Bool.eq_false_iff.mpr h102
                      refine zb fun K kk hK => ?_
                      simp only [go_sem, h102, of_decide_eq_false h102, hl0a, hl0b, hl0d, hl0w]
                      (repeat refine sd ?_)
                      refine hK _ _ fun nx => ?_; clear hK K; try clear kk
                      refine zh rfl ?_
                      refine zx ?_; refine nmx ?_
                      obtain ⟨arB, h113, hh⟩ := ze hh
                      obtain ⟨h113a, h113c⟩ := zX h113
                      have h113d := qH (f := za.pv) h113c
                      have h113e := qG h113c
                      try simp only [List.length_cons, List.length_nil, Nat.zero_add, Nat.reduceAdd] at h113a h113e
                      try simp only [h113e] at h113a
                      try simp only [List.map_cons, List.map_nil, List.nil_append, List.append_nil, List.cons_append, List.singleton_append, zo, pvE] at h113d
                      refine zq fun K kk hK => ?_
                      simp only [go_sem, h113a, h113d, h113e, hl0a, hl0b, hl0d, hl0w]
                      (repeat refine sd ?_)
                      refine hK _ _ fun nx => ?_; clear hK K; try clear kk
                      refine nmx ?_
                      refine zq fun K kk hK => ?_
                      simp only [go_sem, hl0a, hl0b, hl0d, hl0w]
                      refine hK _ _ fun nx => ?_; clear hK K; try clear kk
                      refine nmx ?_
                      have ih' := ih (pre ++ [adK]) (QM + 1) _ _ (by rw [hsplit]; simp) (by simp [hidx]) hh nx
                      refine zH ?_
                      first | exact ih' _ _ _ _ _ | (simp only [pvE, lsE, zo, h87e, h113e] at ih' ⊢; exact ih' _ _ _ _ _) | (simp only [pvE, lsE, zo, h87e, h113e, h102, h77, h78, h89, h91] at ih' ⊢; exact ih' _ _ _ _ _)
                  · intro i s h
                    obtain ⟨rfl, akS, rfl, nx, g2, g3, g4, g5, g332, rfl⟩ := h
                    try dsimp only at hh
                    refine nmx ?_
                    refine zq fun K kk hK => ?_
                    simp only [go_sem, hl0a, hl0b, hl0d, hl0w]
                    refine hK _ _ fun nx => ?_; clear hK K; try clear kk
                    refine nmx ?_
                    have ih' := ih (pre ++ [adK]) (QM + 1) _ _ (by rw [hsplit]; simp) (by simp [hidx]) hh nx
                    refine zH ?_
                    first | exact ih' _ _ _ _ _ | (simp only [pvE, lsE, zo, h87e] at ih' ⊢; exact ih' _ _ _ _ _) | (simp only [pvE, lsE, zo, h87e, h77, h78, h89, h91] at ih' ⊢; exact ih' _ _ _ _ _)
                  · intro s h; exact h.elim
            · intro i s h; exact h.elim
            · intro s h; exact h.elim
          · intro i s h; exact h.elim
          · intro s h; exact h.elim
        · rw [if_neg h78] at hh
          replace h78 := Bool.eq_false_iff.mpr h78
          refine zh (by first | exact congrArg PV.bool h78 | rfl) ?_
          refine qd ?_; refine nmx ?_
          refine kL ?_
          refine zH ?_
          refine ⟨_, (Option.some.inj hh), ?_⟩
          first | exact ⟨_, _, _, _, _, _, _, _, _, rfl⟩ | (simp only [pvE, lsE, zo]; exact ⟨_, _, _, _, _, _, _, _, _, rfl⟩) | (simp only [pvE, lsE, zo, h77, h78]; exact ⟨_, _, _, _, _, _, _, _, _, rfl⟩)
    exact key l_1 [] _ _ _ rfl rfl f0 _ _ _ _ _ _
  · rintro s ⟨t, hless, aoD, rfl, aum, avd, agb, nx, g2, g3, g4, g5, g332, rfl⟩
    try dsimp only at hh
    refine nmy ?_
    first | (refine wh hless ?_; try refine kg ?_) | refine qF hless ?_ | refine qE hless ?_
    refine zb fun K kk hK => ?_
    simp only [go_sem]
    refine hK _ _ fun nx => ?_; clear hK K; try clear kk
    refine zi ?_; refine nmx ?_
    obtain hR := Option.some.inj hh
    subst hR
    exact zy
  · intro i s h; exact h.elim
  · intro s h; exact h.elim
theorem Kj (l : Str) (R : (Str × (List UInt8))) (hh : vz l = some R) : BC Tryd.prog 54 [.box 1000 0 0] [.var 101 [.qY 1000 0, .row 1001 0 l.length], .bytes 5 l] (.str R.1) [.var 101 [.qY 1000 0, .undef], .gone] := by
 rw [vz] at hh
 exact acK (ρ := Tryd.Xo) Tryd.asw Tryd.abo ⟨_, Tryd.func54, by kernel_rfl, by kernel_rfl⟩ l R hh
theorem QU (l : Str) (R : (List UInt8)) (hh : kI l = some R) : BC Tryd.prog 88 [.box 1000 0 0] [.var 101 [.qY 1000 0, .row 1001 0 l.length], .bytes 5 l] (.tup []) [.var 101 [.qY 1000 0, .row 1001 0 R.length], .bytes 5 R] := by
 rw [kI] at hh
 exact ahp ⟨_, Tryd.func88, by kernel_rfl, by kernel_rfl⟩ (Any.Builder_copyCheck_fresh (ρ := Tryd.Vn) { Tryd.anV with } Tryd.Vp.toX72) (Any.Builder_copyCheck_used (ρ := Tryd.Vn) { Tryd.anV with } Tryd.Vp.toX72) l R hh
theorem Z0 (s_1 : Str) (l_2 : (List UInt8)) (R : (Int × (List UInt8))) (hh : wm s_1 l_2 = some R) : BC Tryd.prog 53 [.box 1000 0 0, .str s_1] [.var 101 [.qY 1000 0, .row 1001 0 l_2.length], .bytes 5 l_2] (.tup [.int .i64 R.1, .Xg]) [.var 101 [.qY 1000 0, .row 1001 0 R.2.length], .WH 5 R.2] := by
  rw [wm] at hh
  refine Za rfl rfl rfl ?_
  refine zb fun K kk hK => ?_
  simp only [go_sem]
  refine hK _ _ fun nx => ?_; clear hK K; try clear kk
  obtain ⟨l_3, h1, hh⟩ := ze hh
  refine zb fun K kk hK => ?_
  simp only [go_sem]
  refine jm [1000, 1001] (by decide) (QU _ _ h1) (by (try simp only [go_sem]) <;> exact wkb) (by rfl) ?_
  simp only [go_sem]
  refine hK _ _ fun nx => ?_; clear hK K; try clear kk
  obtain ⟨l_4, h2, hh⟩ := ze hh
  obtain ⟨h2a, h2c⟩ := zX h2
  have h2d := qH (f := pvB) h2c
  have h2e := qG h2c
  try simp only [List.length_cons, List.length_nil, Nat.zero_add, Nat.reduceAdd] at h2a h2e
  try simp only [h2e] at h2a
  try simp only [List.map_cons, List.map_nil, List.nil_append, List.append_nil, List.cons_append, List.singleton_append, zo, pvE] at h2d
  refine zb fun K kk hK => ?_
  simp only [go_sem, h2a, h2c, h2e]
  (repeat refine sd ?_)
  refine hK _ _ fun nx => ?_; clear hK K; try clear kk
  refine zb fun K kk hK => ?_
  simp only [go_sem]
  refine hK _ _ fun nx => ?_; clear hK K; try clear kk
  refine zi ?_; refine nmx ?_
  obtain hR := Option.some.inj hh
  subst hR
  refine kR ?_ (by rfl) ?_
  · simp only [go_sem, wu, jA, ku, ve, yP, List.map_cons, List.map_append, List.head?_cons]
    all_goals exact wkw
  · (try simp only [go_sem]); (try simp only [List.length_append, List.map_append, h2e]); all_goals exact wkb
end Go.Proofs.YtclohbgnaopjfaaDoor
